/- Contracts of the program's functions and plain facts, for arguments as each lemma says. -/
import Derived.Test.YtokgokbgidgfeaaGreatAwpD
import Derived.Test.YtokgokbgidgfeaaGreatProg
import Derived.KernelRfl
import Derived.Test.YtokgokbgidgfeaaGreatAwpC
import Derived.Test.YtokgokbgidgfeaaGreatRows
set_option linter.all false
namespace Go.Proofs
open Go.aN
@[simp] theorem Qn:ty Tryz.prog 1=some ⟨1,8,.fn,[.nilFunc]⟩:=by kernel_rfl
@[simp] theorem Qo:ty Tryz.prog 2=some ⟨1,8,.int .i64,[.int .i64 0]⟩:=by kernel_rfl
@[simp] theorem Qp:ty Tryz.prog 3=some ⟨1,8,.int .i64,[.int .i64 0]⟩:=by kernel_rfl
@[simp] theorem Qq:ty Tryz.prog 4=some ⟨1,1,.bool,[.bool false]⟩:=by kernel_rfl
@[simp] theorem Qr:ty Tryz.prog 5=some ⟨1,1,.int .u8,[.int .u8 0]⟩:=by kernel_rfl
@[simp] theorem Qs:ty Tryz.prog 6=some ⟨1,1,.int .u8,[.int .u8 0]⟩:=by kernel_rfl
@[simp] theorem Qu:ty Tryz.prog 7=some ⟨4,24,.struct [(2,0),(3,1),(4,2),(6,3)],[.int .i64 0,.int .i64 0,.bool false,.int .u8 0]⟩:=by kernel_rfl
@[simp] theorem Qv:ty Tryz.prog 8=some ⟨4,24,.struct [(2,0),(3,1),(4,2),(6,3)],[.int .i64 0,.int .i64 0,.bool false,.int .u8 0]⟩:=by kernel_rfl
@[simp] theorem Qw:ty Tryz.prog 9=some ⟨1,16,.str,[.string ⟨#[]⟩]⟩:=by kernel_rfl
@[simp] theorem PK:ty Tryz.prog 12=some ⟨1,8,.int .u64,[.int .u64 0]⟩:=by kernel_rfl
@[simp] theorem PL:ty Tryz.prog 21=some ⟨1,4,.int .i32,[.int .i32 0]⟩:=by kernel_rfl
@[simp] theorem PM:ty Tryz.prog 23=some ⟨4,32,.struct [(3,0),(3,1),(3,2),(3,3)],[.int .i64 0,.int .i64 0,.int .i64 0,.int .i64 0]⟩:=by kernel_rfl
@[simp] theorem PN:ty Tryz.prog 24=some ⟨1,24,.slice 92,[.slice none 0 0]⟩:=by kernel_rfl
@[simp] theorem PO:ty Tryz.prog 25=some ⟨1,24,.slice 96,[.slice none 0 0]⟩:=by kernel_rfl
@[simp] theorem PQ:ty Tryz.prog 26=some ⟨1,24,.slice 71,[.slice none 0 0]⟩:=by kernel_rfl
@[simp] theorem PR:ty Tryz.prog 28=some ⟨9,120,.struct [(23,0),(3,4),(3,5),(24,6),(25,7),(26,8)],[.int .i64 0,.int .i64 0,.int .i64 0,.int .i64 0,.int .i64 0,.int .i64 0,.slice none 0 0,.slice none 0 0,.slice none 0 0]⟩:=by kernel_rfl
@[simp] theorem PS:ty Tryz.prog 32=some ⟨1,24,.slice 98,[.slice none 0 0]⟩:=by kernel_rfl
@[simp] theorem PT:ty Tryz.prog 33=some ⟨1,24,.slice 3,[.slice none 0 0]⟩:=by kernel_rfl
@[simp] theorem PU:ty Tryz.prog 39=some ⟨1,24,.slice 106,[.slice none 0 0]⟩:=by kernel_rfl
@[simp] theorem PV:ty Tryz.prog 50=some ⟨2,16,.struct [(3,0),(3,1)],[.int .i64 0,.int .i64 0]⟩:=by kernel_rfl
@[simp] theorem PW:ty Tryz.prog 51=some ⟨1,8,.int .i64,[.int .i64 0]⟩:=by kernel_rfl
@[simp] theorem PX:ty Tryz.prog 64=some ⟨1,8,.fn,[.nilFunc]⟩:=by kernel_rfl
@[simp] theorem PY:ty Tryz.prog 67=some ⟨3,72,.struct [(33,0),(26,1),(25,2)],[.slice none 0 0,.slice none 0 0,.slice none 0 0]⟩:=by kernel_rfl
@[simp] theorem PZ:ty Tryz.prog 71=some ⟨1,24,.slice 5,[.slice none 0 0]⟩:=by kernel_rfl
@[simp] theorem P0:ty Tryz.prog 73=some ⟨7,80,.struct [(3,0),(50,1),(3,3),(3,4),(71,5),(9,6)],[.int .i64 0,.int .i64 0,.int .i64 0,.int .i64 0,.int .i64 0,.slice none 0 0,.string ⟨#[]⟩]⟩:=by kernel_rfl
@[simp] theorem P1:ty Tryz.prog 77=some ⟨3,40,.struct [(50,0),(71,2)],[.int .i64 0,.int .i64 0,.slice none 0 0]⟩:=by kernel_rfl
@[simp] theorem P2:ty Tryz.prog 84=some ⟨1,24,.slice 73,[.slice none 0 0]⟩:=by kernel_rfl
@[simp] theorem P3:ty Tryz.prog 86=some ⟨1,24,.slice 77,[.slice none 0 0]⟩:=by kernel_rfl
@[simp] theorem P4:ty Tryz.prog 92=some ⟨5,32,.struct [(3,0),(4,1),(4,2),(3,3),(3,4)],[.int .i64 0,.bool false,.bool false,.int .i64 0,.int .i64 0]⟩:=by kernel_rfl
@[simp] theorem P5:ty Tryz.prog 96=some ⟨3,32,.struct [(9,0),(50,1)],[.string ⟨#[]⟩,.int .i64 0,.int .i64 0]⟩:=by kernel_rfl
@[simp] theorem P6:ty Tryz.prog 98=some ⟨2,16,.struct [(3,0),(3,1)],[.int .i64 0,.int .i64 0]⟩:=by kernel_rfl
@[simp] theorem OA:ty Tryz.prog 106=some ⟨3,24,.struct [(3,0),(3,1),(3,2)],[.int .i64 0,.int .i64 0,.int .i64 0]⟩:=by kernel_rfl
@[simp] theorem OB:ty Tryz.prog 111=some ⟨1,8,.fn,[.nilFunc]⟩:=by kernel_rfl
@[simp] theorem OC:ty Tryz.prog 113=some ⟨1,24,.slice 115,[.slice none 0 0]⟩:=by kernel_rfl
@[simp] theorem OD:ty Tryz.prog 115=some ⟨2,16,.struct [(3,0),(3,1)],[.int .i64 0,.int .i64 0]⟩:=by kernel_rfl
@[simp] theorem OE:ty Tryz.prog 129=some ⟨1,8,.fn,[.nilFunc]⟩:=by kernel_rfl
@[simp] theorem OG:ty Tryz.prog 130=some ⟨1,8,.fn,[.nilFunc]⟩:=by kernel_rfl
@[simp] theorem OH:ty Tryz.prog 132=some ⟨1,24,.slice 4,[.slice none 0 0]⟩:=by kernel_rfl
@[simp] theorem OI:ty Tryz.prog 133=some ⟨1,8,.fn,[.nilFunc]⟩:=by kernel_rfl
@[simp] theorem OJ:ty Tryz.prog 146=some ⟨1,8,.fn,[.nilFunc]⟩:=by kernel_rfl
@[simp] theorem OK:ty Tryz.prog 148=some ⟨1,8,.ptr 151,[.pointer none]⟩:=by kernel_rfl
@[simp] theorem OL:ty Tryz.prog 151=some ⟨6,112,.struct [(67,0),(77,3)],[.slice none 0 0,.slice none 0 0,.slice none 0 0,.int .i64 0,.int .i64 0,.slice none 0 0]⟩:=by kernel_rfl
@[simp] theorem OM:ty Tryz.prog 152=some ⟨1,8,.fn,[.nilFunc]⟩:=by kernel_rfl
@[simp] theorem ON:ty Tryz.prog 154=some ⟨1,8,.fn,[.nilFunc]⟩:=by kernel_rfl
@[simp] theorem OO:ty Tryz.prog 157=some ⟨1,8,.ptr 163,[.pointer none]⟩:=by kernel_rfl
@[simp] theorem OP:ty Tryz.prog 160=some ⟨1,8,.int .u64,[.int .u64 0]⟩:=by kernel_rfl
@[simp] theorem OQ:ty Tryz.prog 161=some ⟨64,512,.array 64 160,[.int .u64 0,.int .u64 0,.int .u64 0,.int .u64 0,.int .u64 0,.int .u64 0,.int .u64 0,.int .u64 0,.int .u64 0,.int .u64 0,.int .u64 0,.int .u64 0,.int .u64 0,.int .u64 0,.int .u64 0,.int .u64 0,.int .u64 0,.int .u64 0,.int .u64 0,.int .u64 0,.int .u64 0,.int .u64 0,.int .u64 0,.int .u64 0,.int .u64 0,.int .u64 0,.int .u64 0,.int .u64 0,.int .u64 0,.int .u64 0,.int .u64 0,.int .u64 0,.int .u64 0,.int .u64 0,.int .u64 0,.int .u64 0,.int .u64 0,.int .u64 0,.int .u64 0,.int .u64 0,.int .u64 0,.int .u64 0,.int .u64 0,.int .u64 0,.int .u64 0,.int .u64 0,.int .u64 0,.int .u64 0,.int .u64 0,.int .u64 0,.int .u64 0,.int .u64 0,.int .u64 0,.int .u64 0,.int .u64 0,.int .u64 0,.int .u64 0,.int .u64 0,.int .u64 0,.int .u64 0,.int .u64 0,.int .u64 0,.int .u64 0,.int .u64 0]⟩:=by kernel_rfl
@[simp] theorem OR:ty Tryz.prog 163=some ⟨65,536,.struct [(33,0),(161,1)],[.slice none 0 0,.int .u64 0,.int .u64 0,.int .u64 0,.int .u64 0,.int .u64 0,.int .u64 0,.int .u64 0,.int .u64 0,.int .u64 0,.int .u64 0,.int .u64 0,.int .u64 0,.int .u64 0,.int .u64 0,.int .u64 0,.int .u64 0,.int .u64 0,.int .u64 0,.int .u64 0,.int .u64 0,.int .u64 0,.int .u64 0,.int .u64 0,.int .u64 0,.int .u64 0,.int .u64 0,.int .u64 0,.int .u64 0,.int .u64 0,.int .u64 0,.int .u64 0,.int .u64 0,.int .u64 0,.int .u64 0,.int .u64 0,.int .u64 0,.int .u64 0,.int .u64 0,.int .u64 0,.int .u64 0,.int .u64 0,.int .u64 0,.int .u64 0,.int .u64 0,.int .u64 0,.int .u64 0,.int .u64 0,.int .u64 0,.int .u64 0,.int .u64 0,.int .u64 0,.int .u64 0,.int .u64 0,.int .u64 0,.int .u64 0,.int .u64 0,.int .u64 0,.int .u64 0,.int .u64 0,.int .u64 0,.int .u64 0,.int .u64 0,.int .u64 0,.int .u64 0]⟩:=by kernel_rfl
@[simp] theorem OS:ty Tryz.prog 165=some ⟨1,8,.fn,[.nilFunc]⟩:=by kernel_rfl
@[simp] theorem OT:ty Tryz.prog 178=some ⟨1,8,.fn,[.nilFunc]⟩:=by kernel_rfl
@[simp] theorem OU:ty Tryz.prog 186=some ⟨1,8,.ptr 188,[.pointer none]⟩:=by kernel_rfl
@[simp] theorem OV:ty Tryz.prog 188=some ⟨19,272,.struct [(28,0),(67,9),(73,12)],[.int .i64 0,.int .i64 0,.int .i64 0,.int .i64 0,.int .i64 0,.int .i64 0,.slice none 0 0,.slice none 0 0,.slice none 0 0,.slice none 0 0,.slice none 0 0,.slice none 0 0,.int .i64 0,.int .i64 0,.int .i64 0,.int .i64 0,.int .i64 0,.slice none 0 0,.string ⟨#[]⟩]⟩:=by kernel_rfl
@[simp] theorem OW:ty Tryz.prog 192=some ⟨1,8,.fn,[.nilFunc]⟩:=by kernel_rfl
@[simp] theorem OX:ty Tryz.prog 196=some ⟨3,24,.struct [(3,0),(3,1),(3,2)],[.int .i64 0,.int .i64 0,.int .i64 0]⟩:=by kernel_rfl
@[simp] theorem OY:ty Tryz.prog 198=some ⟨9,72,.struct [(196,0),(3,3),(3,4),(3,5),(3,6),(3,7),(3,8)],[.int .i64 0,.int .i64 0,.int .i64 0,.int .i64 0,.int .i64 0,.int .i64 0,.int .i64 0,.int .i64 0,.int .i64 0]⟩:=by kernel_rfl
@[simp] theorem OZ:ty Tryz.prog 201=some ⟨1,8,.fn,[.nilFunc]⟩:=by kernel_rfl
@[simp] theorem O0:ty Tryz.prog 202=some ⟨1,8,.fn,[.nilFunc]⟩:=by kernel_rfl
@[simp] theorem O1:ty Tryz.prog 205=some ⟨5,40,.struct [(3,0),(3,1),(4,2),(3,3),(3,4)],[.int .i64 0,.int .i64 0,.bool false,.int .i64 0,.int .i64 0]⟩:=by kernel_rfl
@[simp] theorem O2:ty Tryz.prog 223=some ⟨1,8,.fn,[.nilFunc]⟩:=by kernel_rfl
@[simp] theorem O3:ty Tryz.prog 224=some ⟨1,8,.fn,[.nilFunc]⟩:=by kernel_rfl
@[simp] theorem O4:ty Tryz.prog 229=some ⟨6,48,.array 6 3,[.int .i64 0,.int .i64 0,.int .i64 0,.int .i64 0,.int .i64 0,.int .i64 0]⟩:=by kernel_rfl
open Go.aN
abbrev vI(n:Int):D:=.v (.int .i64 n)
abbrev vS(s:ByteArray):D:=.v (.string s)
abbrev vB(b:UInt8):D:=.v (.int .u8 b.toNat)
abbrev rI(x:List Int):D:=rows 1 vI x
abbrev oI(x:List Int):D:=ai 1 vI x
abbrev rB(x:List UInt8):D:=rows 1 vB x
abbrev oB(x:List UInt8):D:=ai 1 vB x
structure Root where
 name:ByteArray
 ix:Int
 gen:Int
 deriving Inhabited
def ak(r:Root):D:=.agg [vS r.name,vI r.ix,vI r.gen]
abbrev rR(x:List Root):D:=rows 3 ak x
abbrev oR(x:List Root):D:=ai 3 ak x
@[simp] theorem yD(r:Root):(ak r).cF=ak r:=by simp[ak]
@[simp] theorem Hg(r:Root):(ak r).fp=true:=by simp[ak]
@[simp] theorem Hk(r:Root):(ak r).dS=true:=by simp[ak]
@[simp] theorem N4:xy Tryz.prog 96=true:=by kernel_rfl
@[simp] theorem N2:Tryz.prog.eqGuardType Tryz.prog.depth 50=false:=by kernel_rfl
@[simp] theorem N3:xy Tryz.prog 50=true:=by kernel_rfl
def oZ(c:Int):Bool := !(decide (c≤32)||(decide (127≤c)&&decide (c≤160))||decide (c=65533))
def fZ(a b:Int):Bool:=decide (0≤a)&&decide (a<32)&&decide (0≤b)&&decide (b<65536)
theorem mS(s:ByteArray)(i:Nat):1≤(Utf8.decode s i).2:=by
 unfold Utf8.decode;dsimp only
 repeat' split
 all_goals simp
def dc(s:ByteArray)(pos:Nat):Bool:=
 if pos<s.size then oZ (Utf8.decode s pos).1&&dc s (pos+(Utf8.decode s pos).2)else true
termination_by s.size-pos
decreasing_by have:=mS s pos;omega
def cu(s:ByteArray):Bool:=dc s 0&&(!(s.toList==[])&&decide ((s.size:Int)≤16))
def cD(l:List Root)(nm:ByteArray):Int:=match l.findIdx? (fun r=>r.name.toList==nm.toList)with
 | some i=>i
 | none => -1
theorem tE{l:List Root}{nm:ByteArray}{i:Nat}(hi:i<l.length)(h:∀j,j<i→((nth l j).name.toList==nm.toList)=false)(ht:((nth l i).name.toList==nm.toList)=true):cD l nm=i:=by
 have:l.findIdx? (fun r=>r.name.toList==nm.toList)=some i:=by
  rw[List.findIdx?_eq_some_iff_getElem];refine⟨hi,by rw[bC hi]at ht;exact ht,fun j hj=>?_⟩;have:=h j hj;have hj2:j<l.length:=by omega
  rw[bC hj2]at this;simpa using this
 simp[cD,this]
theorem lL{l:List Root}{nm:ByteArray}(h:∀j,j<l.length→((nth l j).name.toList==nm.toList)=false):cD l nm = -1:=by
 have:l.findIdx? (fun r=>r.name.toList==nm.toList)=none:=by
  rw[List.findIdx?_eq_none_iff];intro x hx;obtain⟨j,hj,rfl⟩:=List.getElem_of_mem hx;have:=h j hj;rw[bC hj]at this;exact this
 simp[cD,this]
def fX:Root:=⟨⟨#[]⟩,0,0⟩
def fQ(n:Int):Bool := !(decide (n<2)||decide (8<n)||(n.tmod 2 != 0))
def isZero(r:Root):Bool:=r.name.toList==(⟨#[]⟩:ByteArray).toList&&(r.ix==0&&(r.gen==0))
def dW(l:List Root)(i:Nat):Bool:=isZero (nth l i)||(cu (nth l i).name&&fZ (nth l i).ix (nth l i).gen && !decide (0≤cD (l.take i) (nth l i).name))
def ck(l:List Root):Bool:=(List.range l.length).all (dW l)&&fQ l.length
theorem ki{l:List Root}{i:Nat}(hi:i<l.length)(h:dW l i=false):ck l=false:=by
 have:(List.range l.length).all (dW l)=false:=by
  rw[List.all_eq_false];exact⟨i,by simpa using hi,by simp[h]⟩
 simp[ck,this]
theorem sF{l:List Root}(h:∀i,i<l.length→dW l i=true):ck l=fQ l.length:=by
 have:(List.range l.length).all (dW l)=true:=by
  rw[List.all_eq_true];intro i hi;exact h i (by simpa using hi)
 simp[ck,this]
@[simp] theorem C2(n:Nat):(n:Int).tmod 2=((n%2:Nat):Int):=rfl
structure dp where
 aw:List Int
 data:List (List UInt8)
 roots:List Root
 deriving Inhabited
@[simp] theorem D9(x:List UInt8):(rB x).cF=rB x:=by simp
abbrev fL(x:List (List UInt8)):D:=rows 1 rB x
def mz(a:dp):D:=.agg [rI a.aw,fL a.data,rR a.roots]
structure dp.Ok (a:dp):Prop where
 h1:a.aw.length≤2^40
 h2:a.data.length≤2^40
 h3:a.roots.length≤2^40
 h4:∀i,i<a.data.length→(nth a.data i).length≤2^40
 h5:∀i,i<a.roots.length→(nth a.roots i).name.size≤2^40
def ig(a:dp)(i:Nat):Bool := !(decide (nth a.aw i<0)||decide (65535<nth a.aw i)||decide (2048<(nth a.data i).length))
def hZ(a:dp):Bool := !((a.aw.length != a.data.length)||decide (a.aw.length<2)||decide (32<a.aw.length)||(a.aw.length%2 != 0))
def bH(a:dp):Bool:=hZ a&&(List.range a.aw.length).all (ig a)&&ck a.roots
theorem t0{a:dp}(h:hZ a=false):bH a=false:=by simp[bH,h]
theorem tZ{a:dp}{i:Nat}(hi:i<a.aw.length)(h:ig a i=false):bH a=false:=by
 have:(List.range a.aw.length).all (ig a)=false:=by
  rw[List.all_eq_false];exact⟨i,by simpa using hi,by simp[h]⟩
 simp[bH,this]
theorem sD{a:dp}(h0:hZ a=true)(h:∀i,i<a.aw.length→ig a i=true):bH a=ck a.roots:=by
 have:(List.range a.aw.length).all (ig a)=true:=by
  rw[List.all_eq_true];intro i hi;exact h i (by simpa using hi)
 simp[bH,this,h0]
theorem im{f:Nat→Bool}{n i:Nat}(hi:i<n)(h:f i=false):(List.range n).all f=false:=by
 rw[List.all_eq_false];exact⟨i,by simpa using hi,by simp[h]⟩
theorem all_good{f:Nat→Bool}{n:Nat}(h:∀i,i<n→f i=true):(List.range n).all f=true:=by
 rw[List.all_eq_true];intro i hi;exact h i (by simpa using hi)
def eX{α:Type}[Inhabited α](eq:α→α→Bool)(x y:List α):Bool:=(x.length==y.length)&&(List.range x.length).all fun i=>eq (nth x i) (nth y i)
theorem pt{α:Type}[Inhabited α]{eq:α→α→Bool}{x y:List α}(h:x.length≠y.length):eX eq x y=false:=by simp[eX,h]
theorem pr{α:Type}[Inhabited α]{eq:α→α→Bool}{x y:List α}{i:Nat}(hi:i<x.length)(h:eq (nth x i) (nth y i)=false):eX eq x y=false:=by
 simp only[eX];rw[im hi h];simp
theorem kX{α:Type}[Inhabited α]{eq:α→α→Bool}{x y:List α}(hl:x.length=y.length)(h:∀i,i<x.length→eq (nth x i) (nth y i)=true):eX eq x y=true:=by
 simp only[eX];rw[all_good h];simp[hl]
def str(b:List UInt8):ByteArray:=⟨b.toArray⟩
theorem tq(l:List UInt8):bytesD (l.map vB)=some (l.map fun b=>(b.toNat:Int)):=by
 induction l with
 | nil=>rfl
 | cons b l ih=>simp[bytesD,ih]
theorem pF(l:List UInt8):jU (l.map fun b=>(b.toNat:Int))=str l:=by
 have key:∀(l:List UInt8) (r:ByteArray),(l.map fun b=>(b.toNat:Int)).foldl (fun r n=>r.push (UInt8.ofNat n.toNat)) r=⟨r.data++l.toArray⟩:=by
  intro l
  induction l with
  | nil=>intro r;simp
  | cons b l ih=>intro r;simp only[List.map_cons,List.foldl_cons];rw[ih];simp[ByteArray.push]
 simp[jU,key,str]
theorem qr(objs:List aN.Obj)(b:List UInt8):fO Tryz.prog objs 71 9 (.d (rB b))=some (.d (.v (.string (str b))),objs):=by
 simp[fO,rows,fE,gx,gM,gL,zm,tq,pF]
def iE(a b:Root):Bool:=a.name.toList==b.name.toList&&(a.ix==b.ix&&(a.gen==b.gen))
def LO(a b:dp):Bool:=eX (· == ·) a.aw b.aw&&(eX (fun x y=>(str x).toList==(str y).toList) a.data b.data&&eX iE a.roots b.roots)
structure Op where
 act:Int
 ix:Int
 gen:Int
 n:Int
 off:Int
 b:List UInt8
 name:ByteArray
def mE(o:Op):D:=.agg [vI o.act,vI o.ix,vI o.gen,vI o.n,vI o.off,rB o.b,vS o.name]
def nO(o:Op):Bool:=decide ((o.b.length:Int)≤4096)&&decide ((o.name.size:Int)≤1024)
def cZ(a:dp)(ix gn:Int):Bool:=decide (0≤ix)&&(decide (ix<a.aw.length)&&(decide (0<((nth a.data ix.toNat).length:Int))&&(nth a.aw ix.toNat==gn)))
theorem FG{a b c:Bool}(h:(!a||(!b || !c))=true):(a&&(b&&c))=false:=by cases a<;>cases b<;>cases c<;>simp at *
theorem FH{a b c:Bool}(h:(!a||(!b || !c))=false):(a&&(b&&c))=true:=by cases a<;>cases b<;>cases c<;>simp at *
def bO(l:List Root)(nm:ByteArray):Int×Int:=if ck l=false then (0,1)else if cu nm=false then (0,3)else (cD l nm,0)
structure dQ (l:List Root):Prop where
 h1:l.length≤2^40
 h2:∀i,i<l.length→(nth l i).name.size≤2^40
theorem nP(l:List Root)(nm:ByteArray) : -1≤cD l nm∧cD l nm<l.length:=by
 unfold cD;split
 ·rename_i i h;rw[List.findIdx?_eq_some_iff_getElem]at h;obtain⟨h,_⟩:=h;omega
 ·omega
def cJ(l:List Root)(nm:ByteArray):List Root×Int:=if (bO l nm).2≠0 then ([],(bO l nm).2)else if (bO l nm).1<0 then ([],11)else (l.set (bO l nm).1.toNat fX,0)
theorem i6{l:List Root}{nm:ByteArray}(hl:dQ l)(h1:(bO l nm).2=0)(h2:0≤(bO l nm).1):∃k:Nat,(bO l nm).1=k∧k<l.length:=by
 unfold bO at h1 h2 ⊢;by_cases q1:ck l=false
 ·simp[q1]at h1
 ·by_cases q2:cu nm=false
  ·simp[q1,q2]at h1
  ·rw[if_neg q1,if_neg q2]at h2 ⊢;simp only at h2 ⊢;have:=nP l nm;exact⟨(cD l nm).toNat,by omega,by omega⟩
def ef(l:List Root)(nm:ByteArray):Int×Int×Int:=if (bO l nm).2≠0 then (0,0,(bO l nm).2)else if (bO l nm).1<0 then (0,0,11)else ((nth l (bO l nm).1.toNat).ix,(nth l (bO l nm).1.toNat).gen,0)
def gD(l:List Root)(nm:ByteArray):Int:=if (bO l nm).1<0 then cD l ⟨#[]⟩else (bO l nm).1
def dg(l:List Root)(nm:ByteArray)(ix gn:Int):List Root×Int:=
 if (bO l nm).2≠0 then ([],(bO l nm).2)else if fZ ix gn=false then ([],1)else if gD l nm<0 then ([],9)else (l.set (gD l nm).toNat ⟨nm,ix,gn⟩,0)
theorem kn{l:List Root}{nm:ByteArray}(hl:dQ l)(h1:(bO l nm).2=0)(h2:0≤gD l nm):∃k:Nat,gD l nm=k∧k<l.length:=by
 unfold gD at h2 ⊢;split at h2
 ·rename_i q;rw[if_pos q];have:=nP l ⟨#[]⟩;exact⟨(cD l ⟨#[]⟩).toNat,by omega,by omega⟩
 ·rename_i q;rw[if_neg q];exact i6 hl h1 h2
open Go.aN
abbrev Om(x:List (List UInt8)):D:=ai 1 oB x
def aJ(a:dp):D:=.agg [oI a.aw,Om a.data,oR a.roots]
@[simp] theorem HB(r:Root):(ak r).snap=ak r:=by simp[ak,ko,nu]
@[simp] theorem Fh(r:Root):(ak r).cE=true:=by simp[ak,mi,zD]
def cx(size:Nat)(off n:Int):Bool := !(decide (off<0)||(decide ((size:Int)<off)||(decide (n<0)||decide ((size:Int)-off<n))))
theorem oq{len:Nat}{off n:Int}(h:len≤2^40):(decide (off<0)||decide ((len:Int)<off)||decide (n<0)||decide (IntKind.i64.wrap ((len:Int)-off)<n)) = !cx len off n:=by
 by_cases h1:off<0
 ·simp[cx,h1]
 by_cases h2:(len:Int)<off
 ·simp[cx,h2]
 rw[wrap64 (by omega) (by omega)];simp[cx,h1,h2]
def b7(n:Int):Bool:=decide (1≤n)&&decide (n≤2048)
def fJ(a:dp)(i:Nat):Bool:=decide ((nth a.data i).length=0)&&(nth a.aw i != 65535)
def gH(a:dp):Option Nat:=(List.range a.aw.length).find? (fJ a)
theorem kE{a:dp}{i:Nat}(hi:i<a.aw.length)(h:∀j,j<i→fJ a j=false)(ht:fJ a i=true):gH a=some i:=by
 unfold gH;rw[List.find?_range_eq_some];exact⟨ht,by simpa using hi,fun j hj=>by simp[h j hj]⟩
theorem iR{a:dp}(h:∀j,j<a.aw.length→fJ a j=false):gH a=none:=by
 unfold gH;rw[List.find?_eq_none];intro j hj;simp[h j (by simpa using hj)]
structure Eff where
 a:dp
 ix:Int
 gen:Int
 b:List UInt8
 e:Int
def cf(a:dp)(n:Int):Eff:=if b7 n=false then ⟨a,0,0,[],1⟩else match gH a with
 | some i=>⟨{a with data:=a.data.set i (List.replicate n.toNat 0)},i,nth a.aw i,[],0⟩
 | none=>⟨a,0,0,[],9⟩
def cz(a:dp)(k:Nat):Eff:=⟨{a with data:=a.data.set k [],aw:=a.aw.set k (min (nth a.aw k+1) 65535)},0,0,[],0⟩
def bX(a:dp)(k:Nat)(n:Int):Eff:=if b7 n=false then ⟨a,0,0,[],1⟩else ⟨{a with data:=a.data.set k ((nth a.data k).take n.toNat++List.replicate (n.toNat-(nth a.data k).length) 0)},0,0,[],0⟩
def fA(a:dp)(k:Nat)(off n:Int):Eff:=if cx (nth a.data k).length off n=false then ⟨a,0,0,[],1⟩else ⟨a,0,0,((nth a.data k).drop off.toNat).take n.toNat,0⟩
def dx(a:dp)(k:Nat)(off:Int)(b:List UInt8):Eff:=if cx (nth a.data k).length off b.length=false then ⟨a,0,0,[],1⟩else ⟨{a with data:=a.data.set k (Go.splice (nth a.data k) off.toNat b)},0,0,[],0⟩
def dE(a:dp)(o:Op):Eff:=
 if o.act=6 then ⟨{a with roots:=(dg a.roots o.name o.ix o.gen).1},0,0,[],(dg a.roots o.name o.ix o.gen).2⟩
 else if o.act=7 then ⟨a,(ef a.roots o.name).1,(ef a.roots o.name).2.1,[],(ef a.roots o.name).2.2⟩
 else if o.act=8 then ⟨{a with roots:=(cJ a.roots o.name).1},0,0,[],(cJ a.roots o.name).2⟩
 else ⟨a,0,0,[],0⟩
open Go.aN
theorem su(b:List UInt8)(n:Nat):Go.splice (List.replicate n (D.v (.int .u8 0))) 0 ((b.map vB).take (min b.length n))=(b.take n++List.replicate (n-b.length) 0).map vB:=by
 simp only[Go.splice,List.take_zero,List.nil_append,Nat.zero_add,List.drop_replicate,List.map_append,List.map_take,List.map_replicate,List.length_take,List.length_map];rw[show min (min b.length n) b.length=min b.length n by omega];rw[show (vB 0)=D.v (.int .u8 0) from rfl,show n-min b.length n=n-b.length by omega];congr 1;rw[show min b.length n=min n (b.map vB).length by simp;omega];exact List.take_eq_take_min.symm
open Go.aN
theorem set_self{α β:Type}[Inhabited α](f:α→β){l:List α}{k:Nat}(hk:k<l.length):(l.map f).set k (f (nth l k))=l.map f:=by
 rw[←List.map_set,bC hk];congr 1;exact List.set_getElem_self ..
theorem l4{l:List (List UInt8)}{k:Nat}(hk:k<l.length):(l.map oB).set k (.row .own 1 ((nth l k).map vB))=l.map oB:=set_self oB hk
theorem sQ{α β:Type}(f:α→β)(l:List α)(i:Nat)(b:List α):Go.splice (l.map f) i (b.map f)=(Go.splice l i b).map f:=by
 simp[Go.splice,List.map_take,List.map_drop]
theorem mJ{l:List (List UInt8)}{k i:Nat}{b:List UInt8}:(l.map oB).set k (.row .own 1 (Go.splice ((nth l k).map vB) i (b.map vB)))=(l.set k (Go.splice (nth l k) i b)).map oB:=by
 rw[sQ,List.map_set];rfl
open Go.aN
def bq(a:dp)(o:Op):Int:=if o.act=1 then 186 else if o.act=7∨o.act=8 then 187 else if o.act<1∨8<o.act then -1 else if o.act=6∧cu o.name=false then -3
 else if cZ a o.ix o.gen=false then -8 else if o.act=2 then 190 else if o.act=3 then 191 else if o.act=4 then 192 else if o.act=5 then 193 else 187
open Go.aN
def pa(i:Nat)(l:List (List UInt8)):List D:=(l.take i).map oB++(l.drop i).map rB
theorem tQ{l:List (List UInt8)}:pa 0 l=l.map rB:=by simp[pa]
theorem wc{l:List (List UInt8)}:pa l.length l=l.map oB:=by simp[pa]
@[simp] theorem Fg{i:Nat}{l:List (List UInt8)}:(pa i l).length=l.length:=by simp[pa];omega
theorem n7{i:Nat}{l:List (List UInt8)}(h:i<l.length):(pa i l)[i]?=some (rB (nth l i)):=by
 unfold pa;rw[List.getElem?_append_right (by simp;omega)];have e:i-((l.take i).map oB).length=0:=by simp;omega
 rw[e,List.getElem?_map,List.getElem?_drop,Nat.add_zero,get_some h];rfl
theorem wd{i:Nat}{l:List (List UInt8)}(h:i<l.length):(pa i l).set i (.row .own 1 ((nth l i).map vB))=pa (i+1) l:=by
 unfold pa;rw[List.set_append_right _ _ (by simp;omega)];have e:i-((l.take i).map oB).length=0:=by simp;omega
 rw[e,bC h,List.drop_eq_getElem_cons h,List.map_cons,List.set_cons_zero,List.take_succ_eq_append_getElem h,List.map_append];simp[ai]
open Go.aN
@[simp] theorem Ib(a:dp):(aJ a).dS=true:=by simp[aJ]
@[simp] theorem H5(a:dp):(aJ a).fp=true:=by simp[aJ]
open Go.aN
def aY:dp:=⟨[],[],[]⟩
def bG(a:dp)(o:Op):Eff:=if bq a o=186 then cf a o.n else if bq a o=187 then dE a o else if bq a o=190 then cz a o.ix.toNat else if bq a o=191 then bX a o.ix.toNat o.n
 else if bq a o=192 then fA a o.ix.toNat o.off o.n else if bq a o=193 then dx a o.ix.toNat o.off o.b else ⟨a,0,0,[], -(bq a o)⟩
def aF(e:Int):Eff:=⟨aY,0,0,[],e⟩
def dR(a:dp)(o:Op):Eff:=if bH a=false then aF 1 else if (bG a o).e≠0 then aF (bG a o).e else bG a o
theorem c9{a:dp}{o:Op}(h:bH a=true)(he:(bG a o).e≠0):dR a o=aF (bG a o).e:=by simp[dR,h,he]
theorem ep{a:dp}{o:Op}(h:bH a=true)(he:(bG a o).e=0):dR a o=bG a o:=by simp[dR,h,he]
@[simp] theorem IC{a n}:(cf a n).b=[]:=by unfold cf;split;rfl;split<;>rfl
@[simp] theorem Ek{a n}:(cf a n).a.aw=a.aw:=by unfold cf;split;rfl;split<;>rfl
@[simp] theorem Ds{a n}:(cf a n).a.roots=a.roots:=by unfold cf;split;rfl;split<;>rfl
@[simp] theorem FE{a n}:(cf a n).a.data.length=a.data.length:=by unfold cf;split;rfl;split<;>simp
@[simp] theorem Ik{a k n}:(bX a k n).b=[]:=by unfold bX;split<;>rfl
@[simp] theorem Ht{a k n}:(bX a k n).ix=0:=by unfold bX;split<;>rfl
@[simp] theorem Fm{a k n}:(bX a k n).gen=0:=by unfold bX;split<;>rfl
@[simp] theorem D8{a k n}:(bX a k n).a.aw=a.aw:=by unfold bX;split<;>rfl
@[simp] theorem Di{a k n}:(bX a k n).a.roots=a.roots:=by unfold bX;split<;>rfl
@[simp] theorem Fo{a k n}:(bX a k n).a.data.length=a.data.length:=by unfold bX;split<;>simp
@[simp] theorem Lq{a k n b}:(dx a k n b).b=[]:=by unfold dx;split<;>rfl
@[simp] theorem Iw{a k n b}:(dx a k n b).ix=0:=by unfold dx;split<;>rfl
@[simp] theorem HK{a k n b}:(dx a k n b).gen=0:=by unfold dx;split<;>rfl
@[simp] theorem Fz{a k n b}:(dx a k n b).a.aw=a.aw:=by unfold dx;split<;>rfl
@[simp] theorem Eh{a k n b}:(dx a k n b).a.roots=a.roots:=by unfold dx;split<;>rfl
@[simp] theorem HL{a k n b}:(dx a k n b).a.data.length=a.data.length:=by unfold dx;split<;>simp
theorem Cc{a o}(h:bq a o=187):o.act=6∨o.act=7∨o.act=8:=by
 unfold bq at h
 (repeat' split at h)<;>omega
theorem gk{a o}(h:190≤bq a o):cZ a o.ix o.gen=true:=by
 unfold bq at h;by_cases hg:cZ a o.ix o.gen=true
 ·exact hg
 ·rw[if_pos (show cZ a o.ix o.gen=false by simpa using hg)]at h
  (repeat' split at h)<;>omega
theorem fD{a ix gn}(h:cZ a ix gn=true):∃k:Nat,ix=k∧k<a.aw.length∧0<(nth a.data k).length∧nth a.aw k=gn:=by
 simp[cZ]at h;obtain⟨h1,h2,h3,h4⟩:=h;refine⟨ix.toNat,by omega,by omega,?_,h4⟩;exact h3
theorem vY(a:dp)(o:Op):bq a o=186∨(bq a o=187∧o.act=6)∨(bq a o=187∧o.act=7)∨(bq a o=187∧o.act=8)∨bq a o=190∨bq a o=191∨bq a o=192∨bq a o=193∨(∃e:Nat,0<e∧bq a o = -(e:Int)):=by
 have h84:=@Cc a o
 have:bq a o=186∨bq a o=187∨bq a o=190∨bq a o=191∨bq a o=192∨bq a o=193∨bq a o = -1∨bq a o = -3∨bq a o = -8:=by
  unfold bq
  (repeat' split)<;>simp
 rcases this with h|h|h|h|h|h|h|h|h
 ·exact .inl h
 ·rcases h84 h with h'|h'|h'<;>simp[h,h']
 ·simp[h]
 ·simp[h]
 ·simp[h]
 ·simp[h]
 ·simp[h];exact⟨1,by omega,rfl⟩
 ·simp[h];exact⟨3,by omega,rfl⟩
 ·simp[h];exact⟨8,by omega,rfl⟩
theorem sw{a:dp}(h:bH a=true):a.data.length=a.aw.length∧2≤a.aw.length∧a.aw.length≤32:=by
 simp[bH,hZ]at h;omega
theorem gC{a:dp}(h:bH a=true){k:Nat}(hk:k<a.aw.length):0≤nth a.aw k∧nth a.aw k≤65535∧(nth a.data k).length≤2048:=by
 simp[bH]at h;have:=h.1.2 k hk;simp[ig]at this;omega
open Go.aN
theorem qX(a:dp)(o:Op):bq a o=186∨(bq a o=187∧o.act=6)∨(bq a o=187∧o.act=7)∨(bq a o=187∧o.act=8)∨bq a o=190∨bq a o=191∨(bq a o=192∧cx (nth a.data o.ix.toNat).length o.off o.n=true)
    ∨ (bq a o=192∧cx (nth a.data o.ix.toNat).length o.off o.n=false)∨bq a o=193∨(∃e:Nat,0<e∧bq a o = -(e:Int)):=by
 have:=vY a o;cases h:cx (nth a.data o.ix.toNat).length o.off o.n<;>simp[h]<;>exact this
open Go.aN
@[simp] theorem Gf{a k}:(cz a k).a.aw.length=a.aw.length:=by simp[cz]
@[simp] theorem Ge{a k}:(cz a k).a.data.length=a.data.length:=by simp[cz]
@[simp] theorem EU{a k}:(cz a k).a.roots=a.roots:=rfl
@[simp] theorem Lw{a k}:(cz a k).b=[]:=rfl
@[simp] theorem J6{a k}:(cz a k).ix=0:=rfl
@[simp] theorem HR{a k}:(cz a k).gen=0:=rfl
@[simp] theorem Lx{a k}:(cz a k).e=0:=rfl
open Go.aN
theorem zG:Opens Tryz.prog 3 fun n:Int=>[vI n]:=AL Tryz.underlying3
theorem Pz:Opens Tryz.prog 5 fun b:UInt8=>[vB b]:=yv Tryz.underlying5
theorem Oq:Opens Tryz.prog 9 fun s:ByteArray=>[vS s]:=AM Tryz.underlying9
theorem K9:Opens Tryz.prog 71 fun l:List UInt8=>[rB l]:=iC (k:=1) (f:=vB) Tryz.underlying71 (by kernel_rfl) (by decide) Pz (fun _=>rfl) (fun _=>⟨rfl,by simp[D.cells,D.aX]⟩)
theorem NA:Opens Tryz.prog 26 fun l:List (List UInt8)=>[fL l]:=iC (k:=1) (f:=rB) Tryz.underlying26 (by kernel_rfl) (by decide) K9 (fun _=>rfl) (fun _=>⟨rfl,by simp[rows,D.aX]⟩)
theorem K8:Opens Tryz.prog 50 fun p:Int×Int=>[vI p.1,vI p.2]:=
 (fH (n:=2) Tryz.underlying50 (by kernel_rfl) (cQ rfl (size:=1) (by kernel_rfl) zG (cQ rfl (size:=1) (by kernel_rfl) zG (oV (by decide))))).map (fun p=>(p.1,p.2.1)) fun _=>rfl
theorem ND:Opens Tryz.prog 96 fun r:Root=>[vS r.name,vI r.ix,vI r.gen]:=
 (fH (n:=3) Tryz.underlying96 (by kernel_rfl) (cQ rfl (size:=1) (by kernel_rfl) Oq (cQ rfl (size:=2) (by kernel_rfl) K8 (oV (by decide))))).map (fun p=>⟨p.1,p.2.1.1,p.2.1.2⟩) fun _=>rfl
theorem Nz:Opens Tryz.prog 25 fun l:List Root=>[rR l]:=iC (k:=3) (f:=ak) Tryz.underlying25 (by kernel_rfl) (by decide) ND (fun _=>rfl) (fun _=>⟨rfl,by simp[ak,D.cells,D.aX]⟩)
theorem La:Opens Tryz.prog 73 fun o:Op=>[vI o.act,vI o.ix,vI o.gen,vI o.n,vI o.off,rB o.b,vS o.name]:=
 (fH (n:=7) Tryz.underlying73 (by kernel_rfl) (cQ rfl (size:=1) (by kernel_rfl) zG (cQ rfl (size:=2) (by kernel_rfl) K8 (cQ rfl (size:=1) (by kernel_rfl) zG (cQ rfl (size:=1) (by kernel_rfl) zG
   (cQ rfl (size := 1) (by kernel_rfl) K9 (cQ rfl (size := 1) (by kernel_rfl) Oq (oV (by decide))))))))).map (fun p => ⟨p.1, p.2.1.1, p.2.1.2, p.2.2.1, p.2.2.2.1, p.2.2.2.2.1, p.2.2.2.2.2.1⟩) fun _ => rfl
theorem own:ownKnob Tryz.prog.godebug=none:=by kernel_rfl
theorem laidOut:laidOutB Tryz.prog=true:=by kernel_rfl
def N6:Gl:=⟨fun _=>True,0,fun _ _ _ _=>trivial⟩
open Go.aN
open Go.aN
def O9(a:dp):Bool:=(List.range (min a.data.length 100)).all (fun i=>decide (((nth a.data i).length:Int)≤4096))&&((List.range (min a.roots.length 100)).all (fun i=>decide (((nth a.roots i).name.size:Int)≤1024))
  && (decide ((a.data.length : Int) ≤ 60) && (decide ((a.aw.length : Int) ≤ 60) && decide ((a.roots.length : Int) ≤ 60))))
def A0:dp:=⟨[0,0],[[],[]],[fX,fX]⟩
def A1:dp:=⟨[0,0],[[0,0,0,0],[]],[fX,fX]⟩
def A2:dp:=⟨[0,0],[[0,7,0,0],[]],[fX,fX]⟩
def A3:dp:=⟨[1,0],[[],[]],[fX,fX]⟩
def A4:dp:=⟨[1,0],[[0],[]],[fX,fX]⟩
def O(act n off:Int)(b:List UInt8):Op:=⟨act,0,0,n,off,b,⟨#[]⟩⟩
theorem d1:dR A0 (O 1 4 0 [])=⟨A1,0,0,[],0⟩:=by kernel_rfl
theorem d2:dR A1 (O 5 0 1 [7])=⟨A2,0,0,[],0⟩:=by kernel_rfl
theorem d3:dR A2 (O 4 4 0 [])=⟨A2,0,0,[0,7,0,0],0⟩:=by kernel_rfl
theorem d4:dR A2 (O 2 0 0 [])=⟨A3,0,0,[],0⟩:=by kernel_rfl
open Go.aN
set_option maxHeartbeats 4000000
open Go.aN
theorem wV(s:ByteArray):∀(n i:Nat) (r:List UInt8),s.size-i=n→ByteArray.toList.loop s i r=r.reverse++s.data.toList.drop i:=by
 have hlen:s.data.toList.length=s.size:=rfl;intro n
 induction n with
 | zero=>
  intro i r h;rw[ByteArray.toList.loop,if_neg (by omega),List.drop_eq_nil_of_le (by omega)];simp
 | succ n ih=>
  intro i r h;have hi:i<s.size:=by omega
  rw[ByteArray.toList.loop,if_pos hi,ih (i+1) _ (by omega)];have hi2:i<s.data.toList.length:=by omega
  rw[List.drop_eq_getElem_cons hi2]
  have:s.get! i=s.data.toList[i]:=by
   have hi3:i<s.data.size:=hi
   show s.data[i]! = _
   rw[getElem!_pos s.data i hi3];simp
  rw[this];simp
theorem toList_eq(s:ByteArray):s.toList=s.data.toList:=by
 unfold ByteArray.toList;rw[wV s _ 0 [] rfl];simp
theorem l8(s:ByteArray):s.toList.length=s.size:=by rw[toList_eq];rfl
theorem fG{α:Type}[Inhabited α]{l:List α}{k i:Nat}{v:α}(hk:k<l.length):nth (l.set k v) i=if i=k then v else nth l i:=by
 simp only[nth,List.getD_eq_getElem?_getD];by_cases h:i=k
 ·subst h;simp[hk]
 ·rw[List.getElem?_set_ne (fun e=>h e.symm),if_neg h]
theorem du{a:dp}:bH a=true↔(a.data.length=a.aw.length∧2≤a.aw.length∧a.aw.length≤32∧a.aw.length%2=0)∧(∀i,i<a.aw.length→0≤nth a.aw i∧nth a.aw i≤65535∧(nth a.data i).length≤2048)∧ck a.roots=true:=by
 simp only[bH,hZ,ig,Bool.and_eq_true,List.all_eq_true,List.mem_range];constructor
 ·rintro⟨⟨h1,h2⟩,h3⟩;refine⟨by simp at h1;omega,fun i hi=>?_,h3⟩;have:=h2 i hi;simp at this;omega
 ·rintro⟨h1,h2,h3⟩;refine⟨⟨by simp;omega,fun i hi=>?_⟩,h3⟩;have:=h2 i hi;simp;omega
theorem np{l:List Root}:ck l=true↔(∀i,i<l.length→dW l i=true)∧fQ l.length=true:=by
 simp only[ck,Bool.and_eq_true,List.all_eq_true,List.mem_range]
theorem pb{s:ByteArray}(h:cu s=true):s.toList≠[]∧s.size≤16:=by
 simp[cu]at h;obtain⟨_,h1,h2⟩:=h;exact⟨h1,by omega⟩
theorem rh{l:List Root}{nm:ByteArray}:cD l nm<0↔∀j,j<l.length→((nth l j).name.toList==nm.toList)=false:=by
 constructor
 ·intro h j hj;unfold cD at h;split at h
  ·rename_i i _;omega
  ·rename_i hn;rw[List.findIdx?_eq_none_iff]at hn;have:=hn l[j] (List.getElem_mem hj);rw[bC hj];exact this
 ·intro h;rw[lL h];omega
theorem xJ{l:List Root}{nm:ByteArray}{k:Nat}(h:cD l nm=k):k<l.length∧((nth l k).name.toList==nm.toList)=true∧∀j,j<k→((nth l j).name.toList==nm.toList)=false:=by
 unfold cD at h;split at h
 ·rename_i i hi;have:i=k:=by omega
  subst this;rw[List.findIdx?_eq_some_iff_getElem]at hi;obtain⟨h1,h2,h3⟩:=hi;refine⟨h1,by rw[bC h1];exact h2,fun j hj=>?_⟩;have:=h3 j hj;rw[bC (by omega)];simpa using this
 ·omega
theorem eT{α:Type}[Inhabited α]{l:List α}{i j:Nat}(h:j<i):nth (l.take i) j=nth l j:=by
 simp[nth,List.getD_eq_getElem?_getD,List.getElem?_take,h]
theorem kU{l:List Root}{i:Nat}(hi:i<l.length):dW l i=true↔isZero (nth l i)=true∨(cu (nth l i).name=true∧fZ (nth l i).ix (nth l i).gen=true∧∀j,j<i→((nth l j).name.toList==(nth l i).name.toList)=false):=by
 have hf:(!decide (0≤cD (l.take i) (nth l i).name))=true↔∀j,j<i→((nth l j).name.toList==(nth l i).name.toList)=false:=by
  rw[show (!decide (0≤cD (l.take i) (nth l i).name))=decide (cD (l.take i) (nth l i).name<0) by
    by_cases h : 0 ≤ cD (l.take i) (nth l i).name
    · simp [h]
    · simp [h]; omega]
  rw[decide_eq_true_eq,rh];have hl:(l.take i).length=i:=by simp;omega
  rw[hl];constructor
  ·intro h j hj;have:=h j hj;rwa [eT hj]at this
  ·intro h j hj;rw[eT hj];exact h j hj
 simp only[dW,Bool.or_eq_true,Bool.and_eq_true];rw[hf];exact or_congr Iff.rfl and_assoc
theorem lT{r:Root}(h:isZero r=true):r.name.toList=[]:=by
 simp[isZero]at h;have:=h.1;exact this.trans rfl
theorem t5{l:List Root}{k:Nat}{r:Root}(hl:ck l=true)(hk:k<l.length)(hr:isZero r=true∨(cu r.name=true∧fZ r.ix r.gen=true∧∀j,j<l.length→j≠k→((nth l j).name.toList==r.name.toList)=false)) :
    ck (l.set k r)=true:=by
 rw[np]at hl ⊢;refine⟨fun i hi=>?_,by simpa using hl.2⟩;have hi':i<l.length:=by simpa using hi
 rw[kU hi];have hold:=(kU hi').1 (hl.1 i hi');rw[fG hk];by_cases hik:i=k
 ·subst hik;rw[if_pos rfl];rcases hr with hr|⟨h1,h2,h3⟩
  ·exact .inl hr
  ·refine .inr ⟨h1,h2,fun j hj=>?_⟩;rw[fG hk,if_neg (by omega)];exact h3 j (by omega) (by omega)
 ·rw[if_neg hik];rcases hold with hz|⟨h1,h2,h3⟩
  ·exact .inl hz
  ·refine .inr ⟨h1,h2,fun j hj=>?_⟩;rw[fG hk];by_cases hjk:j=k
   ·subst hjk;rw[if_pos rfl];rcases hr with hr|⟨_,_,g3⟩
    ·have e:=lT hr;have:=(pb h1).1;rw[e]
     cases hq:(nth l i).name.toList with
     | nil=>exact absurd hq this
     | cons=>rfl
    ·have:=g3 i hi' hik;rw[Bool.eq_false_iff]at this ⊢;intro e;apply this;simp only[beq_iff_eq]at e ⊢;exact e.symm
   ·rw[if_neg hjk];exact h3 j hj
theorem nn{l:List Root}(h:ck l=true):dQ l:=by
 have h':=np.1 h;have hn:l.length≤8:=by have:=h'.2;simp[fQ]at this;omega
 refine⟨by omega,fun i hi=>?_⟩;rcases(kU hi).1 (h'.1 i hi)with hz|⟨h1,_,_⟩
 ·have:=lT hz
  have e:(nth l i).name.size=0:=by
   rw[←l8,this];rfl
  omega
 ·have:=(pb h1).2;omega
theorem CK{a:dp}(h:bH a=true):a.Ok:=by
 obtain⟨h1,h2,h3⟩:=du.1 h;have hr:=nn h3;exact⟨by omega,by omega,hr.h1,fun i hi=>by have:=h2 i (by omega);omega,hr.h2⟩
theorem vD{l:List Root}{nm:ByteArray}(h:(bO l nm).2=0):ck l=true∧cu nm=true∧(bO l nm).1=cD l nm:=by
 unfold bO at h ⊢;split at h
 ·simp at h
 ·split at h
  ·simp at h
  ·rename_i h1 h2;rw[if_neg h1,if_neg h2];exact⟨by simpa using h1,by simpa using h2,rfl⟩
theorem zM{l:List Root}{nm:ByteArray}{ix gn:Int}(h:(dg l nm ix gn).2=0):ck (dg l nm ix gn).1=true∧(dg l nm ix gn).1.length=l.length:=by
 unfold dg at h ⊢;split at h
 ·rename_i q;exact absurd h q
 ·rename_i q;have q:(bO l nm).2=0:=by simpa using q
  obtain⟨h1,h2,h3⟩:=vD q;split at h
  ·simp at h
  ·rename_i q2;split at h
   ·simp at h
   ·rename_i q3;rw[if_neg (by simpa using q),if_neg q2,if_neg q3];have hok:=nn h1;obtain⟨k,hk,hkl⟩:=kn hok q (by omega);rw[hk];refine⟨t5 h1 (by simpa using hkl) (.inr ⟨h2,by simpa using q2,fun j hj hjk=>?_⟩),by simp⟩;simp only[Int.toNat_natCast]at hjk;by_cases hf:(bO l nm).1<0
    ·rw[h3]at hf;exact rh.1 hf j hj
    ·have hs:gD l nm=cD l nm:=by unfold gD;rw[if_neg hf,h3]
     have hk':=xJ (hs▸hk)
     -- j is another one of the same name: it would not be right
     cases hc:((nth l j).name.toList==nm.toList)with
     | false=>rfl
     | true=>
      exfalso;have hr:=(np.1 h1).1;have hjn:(nth l j).name.toList=nm.toList:=by simpa using hc
      have hkn:(nth l k).name.toList=nm.toList:=by simpa using hk'.2.1
      have hne:=(pb h2).1;rcases Nat.lt_or_gt_of_ne hjk with hlt|hgt
      ·have:=hk'.2.2 j hlt;rw[hc]at this;cases this
      ·rcases(kU hj).1 (hr j hj)with hz|⟨_,_,g3⟩
       ·exact hne (hjn▸lT hz)
       ·have:=g3 k hgt;rw[hkn,hjn]at this;simp at this
theorem vu{l:List Root}{nm:ByteArray}(h:(cJ l nm).2=0):ck (cJ l nm).1=true∧(cJ l nm).1.length=l.length:=by
 unfold cJ at h ⊢;split at h
 ·rename_i q;exact absurd h q
 ·rename_i q;have q:(bO l nm).2=0:=by simpa using q
  obtain⟨h1,h2,h3⟩:=vD q;split at h
  ·simp at h
  ·rename_i q2;rw[if_neg (by simpa using q),if_neg q2];obtain⟨k,hk,hkl⟩:=i6 (nn h1) q (by omega);rw[hk];exact⟨t5 h1 (by simpa using hkl) (.inl (by decide +kernel)),by simp⟩
structure Keeps (a:dp) (o:Op) (x:Eff):Prop where
 right:bH x.a=true
 gl:x.a.aw.length=a.aw.length
 rl:x.a.roots.length=a.roots.length
 other:∀i:Nat,i<a.aw.length→(i:Int)≠(if o.act=1 then x.ix else o.ix)→nth x.a.aw i=nth a.aw i∧nth x.a.data i=nth a.data i
 up:∀i,i<a.aw.length→nth a.aw i≤nth x.a.aw i
 roots:o.act≠6→o.act≠8→x.a.roots=a.roots
theorem Cd{a o}:(bq a o=186→o.act=1)∧(bq a o=187→o.act≠1)∧(190≤bq a o→o.act≠1∧o.act≠6∧o.act≠8):=by
 unfold bq
 (repeat' split)<;>omega
theorem yC{a:dp}(h:bH a=true){k:Nat}{b:List UInt8}(hk:k<a.aw.length)(hb:b.length≤2048):bH {a with data:=a.data.set k b}=true:=by
 obtain⟨h1,h2,h3⟩:=du.1 h;refine du.2 ⟨by simpa using h1,fun i hi=>?_,h3⟩;have:=h2 i hi;refine⟨this.1,this.2.1,?_⟩;simp only;rw[fG (by omega)];split
 ·exact hb
 ·exact this.2.2
theorem nf{a:dp}{o:Op}(h:bH a=true){k:Nat}{b:List UInt8}(hk:k<a.aw.length)(hb:b.length≤2048){ix gen:Int}{r:List UInt8}(hix:(if o.act=1 then ix else o.ix)=k):Keeps a o ⟨{a with data:=a.data.set k b},ix,gen,r,0⟩:=by
 have hl:=(du.1 h).1.1;refine⟨yC h hk hb,rfl,rfl,fun i hi hne=>⟨rfl,?_⟩,fun i hi=>by simp,fun _ _=>rfl⟩;simp only at hne ⊢;rw[hix]at hne;rw[fG (by omega),if_neg (by omega)]
theorem ui{a:dp}{i:Nat}(h:gH a=some i):i<a.aw.length∧fJ a i=true∧∀j,j<i→fJ a j=false:=by
 unfold gH at h;rw[List.find?_range_eq_some]at h;exact⟨by simpa using h.2.1,h.1,fun j hj=>by simpa using h.2.2 j hj⟩
theorem yb{a:dp}{o:Op}(h:bH a=true){ix gen:Int}{r:List UInt8}:Keeps a o ⟨a,ix,gen,r,0⟩:=
 ⟨h,rfl,rfl,fun _ _ _=>⟨rfl,rfl⟩,fun _ _=>Int.le_refl _,fun _ _=>rfl⟩
theorem mL{α:Type}{l b:List α}{i:Nat}(h:i+b.length≤l.length):(Go.splice l i b).length=l.length:=by simp[Go.splice];omega
theorem nX{a:dp}{o:Op}(hR:bH a=true)(he:(dR a o).e=0):Keeps a o (dR a o):=by
 have hE:(bG a o).e=0:=by
  unfold dR at he;rw[if_neg (by simp[hR])]at he;split at he
  ·exact he
  ·exact he
 have hd:=ep hR hE;rw[hd];clear he hd;have hl:=(du.1 hR).1;have hs:=(du.1 hR).2.1;have hka:=@Cd a o
 have good:190≤bq a o→∃k:Nat,o.ix=k∧o.ix.toNat=k∧k<a.aw.length∧(if o.act=1 then (0:Int)else o.ix)=k:=fun h=>by
  obtain⟨k,h1,h2,_,_⟩:=fD (gk h);exact⟨k,h1,by omega,h2,by rw[if_neg (hka.2.2 h).1];exact h1⟩
 rcases qX a o with hk|⟨hk,ha⟩|⟨hk,ha⟩|⟨hk,ha⟩|hk|hk|⟨hk,hq⟩|⟨hk,hq⟩|hk|⟨e,h1,hk⟩
 ·have hx:bG a o=cf a o.n:=by simp[bG,hk]
  rw[hx]at hE ⊢;unfold cf at hE ⊢;split at hE
  ·simp at hE
  ·rename_i hsz;rw[if_neg hsz];have hsz:1≤o.n∧o.n≤2048:=by simpa [b7]using hsz
   split at hE
   ·rename_i i hi;have:=ui hi;exact nf hR this.1 (by simp;omega) (by rw[if_pos (hka.1 hk)])
   ·simp at hE
 ·have hx:bG a o=⟨{a with roots:=(dg a.roots o.name o.ix o.gen).1},0,0,[],(dg a.roots o.name o.ix o.gen).2⟩:=by simp[bG,hk,dE,ha]
  rw[hx]at hE ⊢;simp only at hE;have:=zM hE;exact⟨du.2 ⟨hl,hs,this.1⟩,rfl,this.2,fun _ _ _=>⟨rfl,rfl⟩,fun _ _=>Int.le_refl _,fun h=>absurd ha h⟩
 ·have hx:bG a o=⟨a,(ef a.roots o.name).1,(ef a.roots o.name).2.1,[],(ef a.roots o.name).2.2⟩:=by simp[bG,hk,dE,ha]
  rw[hx]at hE ⊢;exact⟨hR,rfl,rfl,fun _ _ _=>⟨rfl,rfl⟩,fun _ _=>Int.le_refl _,fun _ _=>rfl⟩
 ·have hx:bG a o=⟨{a with roots:=(cJ a.roots o.name).1},0,0,[],(cJ a.roots o.name).2⟩:=by simp[bG,hk,dE,ha]
  rw[hx]at hE ⊢;simp only at hE;have:=vu hE;exact⟨du.2 ⟨hl,hs,this.1⟩,rfl,this.2,fun _ _ _=>⟨rfl,rfl⟩,fun _ _=>Int.le_refl _,fun _ h=>absurd ha h⟩
 ·obtain⟨k,e1,e2,e3,e4⟩:=good (by omega);have hx:bG a o=cz a k:=by simp[bG,hk,e2]
  rw[hx];have hg:=hs k e3;refine⟨du.2 ⟨by simp[cz];omega,fun i hi=>?_,(du.1 hR).2.2⟩,by simp,rfl,fun i hi hne=>?_,fun i hi=>?_,fun _ _=>rfl⟩
  ·have hi':i<a.aw.length:=by simpa using hi
   have:=hs i hi';simp only[cz];rw[fG e3,fG (by omega)];split
   ·refine⟨?_,?_,by simp⟩<;>omega
   ·exact this
  ·rw[show (cz a k).ix=0 from rfl,e4]at hne;simp only[cz];rw[fG e3,fG (by omega),if_neg (by omega),if_neg (by omega)];exact⟨rfl,rfl⟩
  ·simp only[cz];rw[fG e3];split
   ·rename_i hik;subst hik;omega
   ·exact Int.le_refl _
 ·obtain⟨k,e1,e2,e3,e4⟩:=good (by omega);have hx:bG a o=bX a k o.n:=by simp[bG,hk,e2]
  rw[hx]at hE ⊢;unfold bX at hE ⊢;split at hE
  ·simp at hE
  ·rename_i hsz;rw[if_neg hsz];have hsz:1≤o.n∧o.n≤2048:=by simpa [b7]using hsz
   exact nf hR e3 (by simp;omega) e4
 ·obtain⟨k,e1,e2,e3,e4⟩:=good (by omega);have hx:bG a o=fA a k o.off o.n:=by simp[bG,hk,e2]
  rw[e2]at hq;rw[hx];unfold fA;rw[if_neg (by simp[hq])];exact yb hR
 ·obtain⟨k,e1,e2,e3,e4⟩:=good (by omega);have hx:bG a o=fA a k o.off o.n:=by simp[bG,hk,e2]
  rw[e2]at hq;rw[hx]at hE;unfold fA at hE;rw[if_pos hq]at hE;simp at hE
 ·obtain⟨k,e1,e2,e3,e4⟩:=good (by omega);have hx:bG a o=dx a k o.off o.b:=by simp[bG,hk,e2]
  rw[hx]at hE ⊢;unfold dx at hE ⊢;split at hE
  ·simp at hE
  ·rename_i hsz;rw[if_neg hsz];have hr:0≤o.off∧o.off≤(nth a.data k).length∧(o.b.length:Int)≤(nth a.data k).length-o.off:=by simp[cx]at hsz;omega
   have:=hs k e3;exact nf hR e3 (by rw[mL (by omega)];exact this.2.2) e4
 ·have hx:bG a o=⟨a,0,0,[],e⟩:=by
   have h1:bq a o≠186∧bq a o≠187∧bq a o≠190∧bq a o≠191∧bq a o≠192∧bq a o≠193:=by omega
   unfold bG;rw[if_neg h1.1,if_neg h1.2.1,if_neg h1.2.2.1,if_neg h1.2.2.2.1,if_neg h1.2.2.2.2.1,if_neg h1.2.2.2.2.2,hk];simp
  rw[hx]at hE;simp only at hE;omega
theorem nr{α:Type}[Inhabited α]{eq:α→α→Bool}(h:∀x,eq x x=true)(l:List α):eX eq l l=true:=kX rfl fun i _=>h _
open Go.aN
theorem Ak{a:dp}{o:Op}(h:(dR a o).e=0):bH a=true:=by
 cases hr:bH a with
 | true=>rfl
 | false=>simp[dR,hr,aF]at h
theorem Ga{a:dp}{o:Op}(hr:bH a=true){x:Eff}(h:bG a o=x)(he:x.e=0):dR a o=x:=by
 subst h;exact ep hr he
theorem DA{a:dp}{o:Op}(hr:bH a=true)(hk:1<o.act)(h6:o.act<6)(hg:cZ a o.ix o.gen=false):(dR a o).e=8:=by
 have hk:bq a o = -8:=by
  unfold bq;rw[if_neg (by omega),if_neg (by omega),if_neg (by omega),if_neg (by omega),if_pos hg]
 have hx:bG a o=⟨a,0,0,[],8⟩:=by simp[bG,hk]
 rw[c9 hr (by rw[hx];simp),hx];rfl
theorem Aw{a:dp}{o:Op}(hk:1<o.act)(h6:o.act<6)(hg:cZ a o.ix o.gen=true):bq a o=188+o.act:=by
 unfold bq;rw[if_neg (by omega),if_neg (by omega),if_neg (by omega),if_neg (by omega),if_neg (by simp[hg])]
 (repeat' split)<;>omega
theorem tw{a:dp}{o:Op}(hk:1<o.act)(h6:o.act<6)(h:(dR a o).e=0):bH a=true∧cZ a o.ix o.gen=true:=by
 have hr:=Ak h;refine⟨hr,?_⟩
 cases hg:cZ a o.ix o.gen with
 | true=>rfl
 | false=>rw[DA hr hk h6 hg]at h;cases h
def Qi(ix gn off:Int)(b:List UInt8):Op:=⟨5,ix,gn,0,off,b,⟨#[]⟩⟩
def PA(ix gn off n:Int):Op:=⟨4,ix,gn,n,off,[],⟨#[]⟩⟩
def NF(ix gn:Int):Op:=⟨2,ix,gn,0,0,[],⟨#[]⟩⟩
structure Wrote (a x:dp) (ix gn off:Int) (b:List UInt8):Prop where
 right:bH x=true
 read:dR x (PA ix gn off b.length)=⟨x,0,0,b,0⟩
 free:(dR x (NF ix gn)).e=0
 dead:gn≠65535→∃k:Nat,ix=k∧k<(dR x (NF ix gn)).a.aw.length∧gn<nth (dR x (NF ix gn)).a.aw k
def Gone(y:dp)(ix gn:Int):Prop:=bH y=true∧(gn≠65535→∃k:Nat,ix=k∧k<y.aw.length∧gn<nth y.aw k)
open Go.aN
@[simp] theorem Le(o:Op):(mE o).cF=mE o:=by simp[mE]
end Go.Proofs
namespace Go.Proofs
instance:Inhabited Op:=⟨⟨0,0,0,0,0,[],⟨#[]⟩⟩⟩
open Go.aN
def eM(n:Int):Op:=⟨1,0,0,n,0,[],⟨#[]⟩⟩
def NS(y:dp)(k v:Int):Prop:=(v = -1∧∀j:Nat,k<j→j<y.aw.length→fJ y j=false)∨(∃j:Nat,v=j∧k<j∧j<y.aw.length∧fJ y j=true∧∀j':Nat,k<j'→j'<j→fJ y j'=false)
structure Fill (y:dp) (last:Int) (i:Nat):Prop where
 right:bH y=true
 low:(i:Int)-1≤last
 high:last<y.aw.length
 neg : -1≤last
 full:∀j:Nat,(j:Int)≤last→fJ y j=false
set_option maxHeartbeats 4000000
open Go.aN
def Hr(ix gn n:Int):Op:=⟨3,ix,gn,n,0,[],⟨#[]⟩⟩
def vr(b:List UInt8)(n:Int):List UInt8:=b.take n.toNat++List.replicate (n.toNat-b.length) 0
structure Ix (a:dp) (ix gn n:Int) (x:Eff):Prop where
 hn:1≤n∧n≤2048
 ra:bH a=true
 ex:∃k:Nat,ix=k∧k<a.aw.length∧k<a.data.length∧0<(nth a.data k).length∧nth a.aw k=gn∧x.a = {a with data:=a.data.set k (vr (nth a.data k) n)}
 rx:bH x.a=true
theorem resized{a:dp}{ix gn n:Int}(h:(dR a (Hr ix gn n)).e=0):Ix a ix gn n (dR a (Hr ix gn n)):=by
 obtain⟨hr,hg⟩:=tw (o:=Hr ix gn n) (show (1:Int)<3 by decide) (show (3:Int)<6 by decide) h;obtain⟨k,hix,hk,hpos,hgen⟩:=fD (ix:=ix) (gn:=gn) hg;have hkd:k<a.data.length:=by have:=(du.1 hr).1;omega
 have M0:bq a (Hr ix gn n)=191:=Aw (o:=Hr ix gn n) (show (1:Int)<3 by decide) (show (3:Int)<6 by decide) hg
 have hE:bG a (Hr ix gn n)=bX a k n:=by
  simp only[bG,M0];simp[Hr,hix]
 have he:(bX a k n).e=0:=by
  have h2:=h;unfold dR at h2;rw[if_neg (by simp[hr]),hE]at h2;split at h2
  ·exact h2
  ·exact h2
 have hK:=nX hr h;have hd:=Ga hr hE he
 have hs:b7 n=true:=by
  cases hs:b7 n with
  | true=>rfl
  | false=>unfold bX at he;rw[if_pos hs]at he;simp at he
 refine⟨by simpa [b7]using hs,hr,⟨k,hix,hk,hkd,hpos,hgen,?_⟩,hK.right⟩;rw[hd];unfold bX;rw[if_neg (by simp[hs])];rfl
structure NT (a:dp) (ix gn n m:Int) (x y z:Eff):Prop where
 hm:1≤m∧m≤2048
 ze:z.e=0
 ry:bH y.a=true
 rz:bH z.a=true
 ex:∃k:Nat,ix=k∧k<a.data.length∧x.a.data.length=a.data.length∧y.a.data.length=a.data.length∧z.a.data.length=a.data.length∧nth x.a.data k=vr (nth a.data k) n ∧
  nth y.a.data k=vr (vr (nth a.data k) n) m∧nth z.a.data k=vr (nth a.data k) m∧((¬n<(nth a.data k).length∨¬n<m)→y.a=z.a)
open Go.aN
open Go.aN
structure Shape where
 pages:Int
 slots:Int
 roots:Int
 room:Int
 deriving Inhabited
def fc(s:Shape):D:=.agg [vI s.pages,vI s.slots,vI s.roots,vI s.room]
structure Slot where
 gen:Int
 live:Bool
 two:Bool
 at_:Int
 len:Int
 deriving Inhabited
abbrev vT(b:Bool):D:=.v (.bool b)
def aA(s:Slot):D:=.agg [vI s.gen,vT s.live,vT s.two,vI s.at_,vI s.len]
abbrev eG(x:List Slot):D:=rows 5 aA x
abbrev Fk(x:List Slot):D:=ai 5 aA x
@[simp] theorem yE(s:Slot):(aA s).cF=aA s:=by simp[aA]
@[simp] theorem HC(s:Slot):(aA s).snap=aA s:=by simp[aA]
@[simp] theorem Hh(s:Slot):(aA s).fp=true:=by simp[aA]
@[simp] theorem Hl(s:Slot):(aA s).dS=true:=by simp[aA]
@[simp] theorem Fi(s:Slot):(aA s).cE=true:=by simp[aA]
def aI:List Int:=[2,3,5,7,10,15]
theorem j4{objs:List aN.Obj}(l:List Int):ji objs (l.map vI)=some (l.map fun n=>.d (vI n),objs):=by
 induction l with
 | nil=>rfl
 | cons a l ih=>simp[ji,gj,ih]
def C6(n:Int):Int:=(n+4-1).tdiv 4*4
def cK(n:Int):Int×Int:=if n<1∨2048<n then (0,1)else (C6 (2+(n+8-1).tdiv 8),0)
def bB(n:Int):Int×Bool:=if n<1∨120<n then (0,false)else match aI.findIdx? (fun w=>decide (n≤w*8))with
 | some i=>(i,true)
 | none=>(0,false)
def cy(c off:Int):Int×Bool:=if c<0∨6≤c∨off<4 then (0,false)
 else if (off-4).tmod (nth aI c.toNat)≠0∨(28:Int).tdiv (nth aI c.toNat)≤(off-4).tdiv (nth aI c.toNat)then (0,false)else ((off-4).tdiv (nth aI c.toNat),true)
def bw(n:Int):Int×Int:=if n≤120∨2048<n then (0,1)else ((n+256-1).tdiv 256,0)
def de(s:Shape):Bool:=decide (1≤s.pages∧s.pages≤64∧1≤s.room∧s.room≤4096∧2≤s.slots∧s.slots≤32∧s.slots.tmod 2=0∧2≤s.roots∧s.roots≤8∧s.roots.tmod 2=0)
def s8(mark first room n:Int):Bool:=decide (1≤room∧room≤4096∧0≤first∧first≤n∧2*room≤n-first∧0≤mark∧mark<n∧(mark<first∨2*room≤mark-first))
def jh(s:Shape):Int:=2+s.room*2
def js(s:Shape):Int:=jh s+1
def jn(s:Shape):Int:=js s+s.slots.tdiv 2
def l9(s:Shape):Int:=jn s+s.roots.tdiv 2
def mF(s:Shape):Int:=l9 s+26
def jN(s:Shape):Int:=mF s+s.pages*4
def eN(s:Shape):Bool:=de s&&decide (jN s≤4096)
def cI(s:Shape)(mode base:Int):Bool:=eN s&&decide (0≤base∧base≤s.pages)&&(if mode=1 then decide (base=0)else if mode=2 then decide (base=s.pages)else decide (mode=3∨mode=4))
def dv(s:Slot):Bool:=if s.gen<0∨65535<s.gen then false else if s.live=false then (s.two==false&&s.at_==0&&s.len==0)else decide (0≤s.at_∧s.at_≤2048∧1≤s.len∧s.len≤2048)
def eO(n:Int):Bool:=decide (2≤n∧n≤32∧n.tmod 2=0)
def zY:Slot:=⟨0,false,false,0,0⟩
def df(l:List Slot):Bool:=(List.range l.length).all (fun i=>dv (nth l i))&&eO l.length
section
open Go.aN Go.RowKit Go.Lib
theorem cq{P:Program}{g:Gl}{n:Nat}{s:Nat→AV}{objs:List aN.Obj}{ops:Array Oper}{hard:List Nat}{K:(Nat→AV)→(Nat→Bool)→List aN.Obj→Prop}{i l}{o:Oper}{av aj}(k:Run P g n ops hard l (put s o.dst av) allT aj K)(ho:ops[i]?=some o:=by exact rfl)(hg:o.guard=none:=by exact rfl)(hd:cP n o.dst=true:=by exact rfl)(h:Got (Go.aN.eM P (bu s) objs o.op) (some (av,aj)):=by simp[aA];exact .mk):Run P g n ops hard (i::l) s allT objs K:=kV ho hg hd h k
end
set_option maxHeartbeats 4000000
open Go.aN
structure bF where
 sh:Shape
 mode:Int
 base:Int
 slots:List Slot
 roots:List Root
 data:List (List UInt8)
def cr(s:bF):D:=.agg [vI s.sh.pages,vI s.sh.slots,vI s.sh.roots,vI s.sh.room,vI s.mode,vI s.base,eG s.slots,rR s.roots,fL s.data]
structure bF.Ok (s:bF):Prop where
 h1:s.slots.length≤2^40
 h2:s.roots.length≤2^40
 h3:s.data.length≤2^40
 h4:∀i,i<s.data.length→(nth s.data i).length≤2^40
 h5:∀i,i<s.roots.length→(nth s.roots i).name.size≤2^40
def aE(p:Int×Int):D:=.agg [vI p.1,vI p.2]
@[simp] theorem eE(s):(aE s).cF=aE s:=by simp[aE]
@[simp] theorem Is(s):(aE s).snap=aE s:=by simp[aE]
@[simp] theorem H3(s):(aE s).fp=true:=by simp[aE]
@[simp] theorem H9(s):(aE s).dS=true:=by simp[aE]
@[simp] theorem He(s):(aE s).cE=true:=by simp[aE]
abbrev rO(x:List (Int×Int)):D:=rows 2 aE x
abbrev oO(x:List (Int×Int)):D:=ai 2 aE x
def eI(s:Slot):Bool:=s.live&&s.two
def dz(l:List Slot)(i:Nat):List Nat:=(List.range i).filter fun j=>eI (nth l j)
theorem jJ{l:List Slot}{i:Nat}(h:eI (nth l i)=true):dz l (i+1)=dz l i++[i]:=by simp[dz,List.range_succ,List.filter_append,h]
theorem jI{l:List Slot}{i:Nat}(h:eI (nth l i)=false):dz l (i+1)=dz l i:=by simp[dz,List.range_succ,List.filter_append,h]
theorem pA{l:List Slot}{i:Nat}:(dz l i).length≤i:=by
 have:=List.length_filter_le (fun j=>eI (nth l j)) (List.range i);simpa [dz]using this
def pV(l:List Slot)(j:Nat):Int×Int:=((nth l j).at_,(nth l j).len)
def bW(l:List Slot):List (Int×Int):=(dz l l.length).map (pV l)
def ud(l:List Slot):List Int:=(dz l l.length).map fun(j:Nat)=>(j:Int)
def eK(l:List Slot)(i:Nat):Nat:=((List.range i).filter fun j=>(nth l j).live).length
theorem j8{l:List Slot}{i:Nat}:eK l (i+1)=eK l i+(if (nth l i).live then 1 else 0):=by
 simp only[eK,List.range_succ,List.filter_append,List.length_append];cases h:(nth l i).live<;>simp[h]
theorem Ay{l:List Slot}{i:Nat}:eK l i≤i:=by
 have:=List.length_filter_le (fun j=>(nth l j).live) (List.range i);simpa [eK]using this
def j7(s:bF)(i:Nat):Bool:=decide (((nth s.data i).length:Int)=(nth s.slots i).len)
def dH(s:bF):Bool:=decide ((s.slots.length:Int)=s.sh.slots∧(s.roots.length:Int)=s.sh.roots∧s.data.length=s.slots.length)&&(df s.slots&&(ck s.roots&&(List.range s.slots.length).all (j7 s)))
def di(to at_:Int)(p:Int×Int):Bool:=decide (p.1<at_∨to<p.1∨p.2<4∨to-p.1<p.2∨p.1.tmod 4≠0∨p.2.tmod 4≠0)
def dI(to:Int):Int→List (Int×Int)→Bool
 | _,[]=>true
 | at_,p::l => !di to at_ p&&dI to (p.1+p.2) l
def eP(fr to:Int):Bool:=decide (0≤fr∧fr≤to∧to≤2048∧fr.tmod 4=0∧to.tmod 4=0)
def dt(fr to:Int)(l:List (Int×Int)):Bool:=eP fr to&&dI to fr l
theorem jA{to at_:Int}{l:List (Int×Int)}{i:Nat}(h:i<l.length):dI to at_ (l.drop i)=(!di to at_ (nth l i)&&dI to ((nth l i).1+(nth l i).2) (l.drop (i+1))):=by
 rw[List.drop_eq_getElem_cons h,bC h];rfl
open Go.aN
theorem Oo:Opens Tryz.prog 4 fun b:Bool=>[vT b]:=yu Tryz.underlying4
theorem Nx:Opens Tryz.prog 23 fun s:Shape=>[vI s.pages,vI s.slots,vI s.roots,vI s.room]:=
 (fH (n:=4) Tryz.underlying23 (by kernel_rfl) (cQ rfl (size:=1) (by kernel_rfl) zG (cQ rfl (size:=1) (by kernel_rfl) zG (cQ rfl (size:=1) (by kernel_rfl) zG (cQ rfl (size:=1) (by kernel_rfl) zG (oV (by decide))))))).map (fun p=>⟨p.1,p.2.1,p.2.2.1,p.2.2.2.1⟩) fun _=>rfl
theorem NC:Opens Tryz.prog 92 fun s:Slot=>[vI s.gen,vT s.live,vT s.two,vI s.at_,vI s.len]:=
 (fH (n:=5) Tryz.underlying92 (by kernel_rfl) (cQ rfl (size:=1) (by kernel_rfl) zG (cQ rfl (size:=1) (by kernel_rfl) Oo (cQ rfl (size:=1) (by kernel_rfl) Oo (cQ rfl (size:=1) (by kernel_rfl) zG (cQ rfl (size:=1) (by kernel_rfl) zG (oV (by decide)))))))).map (fun p=>⟨p.1,p.2.1,p.2.2.1,p.2.2.2.1,p.2.2.2.2.1⟩) fun _=>rfl
theorem Ny:Opens Tryz.prog 24 fun l:List Slot=>[eG l]:=iC (k:=5) (f:=aA) Tryz.underlying24 (by kernel_rfl) (by decide) NC (fun _=>rfl) (fun _=>⟨rfl,by simp[aA,D.cells,D.aX]⟩)
theorem K7:Opens Tryz.prog 28 fun s:bF=>[vI s.sh.pages,vI s.sh.slots,vI s.sh.roots,vI s.sh.room,vI s.mode,vI s.base,eG s.slots,rR s.roots,fL s.data]:=
 (fH (n:=9) Tryz.underlying28 (by kernel_rfl) (cQ rfl (size:=4) (by kernel_rfl) Nx (cQ rfl (size:=1) (by kernel_rfl) zG (cQ rfl (size:=1) (by kernel_rfl) zG (cQ rfl (size:=1) (by kernel_rfl) Ny (cQ rfl (size:=1) (by kernel_rfl) Nz (cQ rfl (size:=1) (by kernel_rfl) NA (oV (by decide))))))))).map (fun p=>⟨p.1,p.2.1,p.2.2.1,p.2.2.2.1,p.2.2.2.2.1,p.2.2.2.2.2.1⟩) fun _=>rfl
open Go.aN
structure nB where
 page:Int
 count:Int
 small:Bool
 cls:Int
 cell:Int
 deriving Inhabited
def iz(s:nB):D:=.agg [vI s.page,vI s.count,vT s.small,vI s.cls,vI s.cell]
@[simp] theorem Hu(s):(iz s).cF=iz s:=by simp[iz]
@[simp] theorem HD(s):(iz s).snap=iz s:=by simp[iz]
@[simp] theorem Hi(s):(iz s).fp=true:=by simp[iz]
@[simp] theorem Hm(s):(iz s).dS=true:=by simp[iz]
@[simp] theorem Fj(s):(iz s).cE=true:=by simp[iz]
def aM(pages:Int)(o:Int×Int):nB×Bool:=
 if o.1<0 then (⟨0,0,false,0,0⟩,false)
 else if (bB o.2).2 then
  let w:=cy (bB o.2).1 (o.1.tmod 32)
  (⟨o.1.tdiv 32,1,true,(bB o.2).1,w.1⟩,w.2&&decide (o.1.tdiv 32<pages))
 else (⟨o.1.tdiv 32,(bw o.2).1,false,(bB o.2).1,0⟩,
   decide ((bw o.2).2 = 0) && decide (o.1.tmod 32 = 0) && decide (o.1.tdiv 32 < pages) && decide ((bw o.2).1 ≤ pages - o.1.tdiv 32))
open Go.aN
section
variable {α:Type} [Inhabited α] (lt:α→α→Bool)
def swp(l:List α)(i j:Nat):List α:=if i<l.length∧j<l.length then (l.set i (nth l j)).set j (nth l i)else l
def sink(a:Nat):Nat→List α→List α
 | 0,l=>l
 | j+1,l=>if a<j+1∧lt (nth l (j+1)) (nth l j)=true then sink a j (swp l (j+1) j)else l
def x8(a:Nat):Nat→Nat→List α→List α
 | 0,_,l=>l
 | k+1,i,l=>x8 a k (i+1) (sink lt a i l)
def lv(a b:Nat)(l:List α):List α:=x8 lt a (b-(a+1)) (a+1) l
def yU(a b:Nat):Nat→Nat→List α→List α
 | 0,_,l=>l
 | k+1,i,l=>yU a b k (i+1) (swp l (a+i) (b+i))
def Bl(a b n:Nat)(l:List α):List α:=yU a b n 0 l
def pn(m:Nat):Nat→Nat→Nat→List α→List α
 | 0,_,_,l=>l
 | f+1,i,j,l=>if i=j then Bl (m-i) m i l else if j<i then pn m f (i-j) j (Bl (m-i) m j l)else pn m f i (j-i) (Bl (m-i) (m+j-i) i l)
def uU(a m b:Nat)(l:List α):List α:=pn m (m-a+(b-m)) (m-a) (b-m) l
def s9(p:Nat→Bool):Nat→Nat→Nat→Nat
 | 0,i,_=>i
 | f+1,i,j=>if i<j then (if p ((i+j)/2)=true then s9 p f ((i+j)/2+1) j else s9 p f i ((i+j)/2))else i
def vg(p:Nat→Bool)(i j:Nat):Nat:=s9 p (j-i) i j
def HH:Nat→Nat→List α→List α
 | 0,_,l=>l
 | k+1,i,l=>HH k (i+1) (swp l i (i+1))
def FZ:Nat→Nat→List α→List α
 | 0,_,l=>l
 | k+1,i,l=>FZ k (i-1) (swp l i (i-1))
def iX:Nat→Nat→Nat→Nat→List α→List α
 | 0,_,_,_,l=>l
 | f+1,a,m,b,l=>
  if m-a=1 then (let i:=vg (fun h=>lt (nth l h) (nth l a)) m b;HH (i-1-a) a l)
  else if b-m=1 then (let i:=vg (fun h => !lt (nth l m) (nth l h)) a m;FZ (m-i) m l)
  else
   let mid:=(a+b)/2
   let n:=mid+m
   let s0:=if mid<m then n-b else a
   let r0:=if mid<m then mid else m
   let st:=vg (fun c => !lt (nth l (n-1-c)) (nth l c)) s0 r0
   let en:=n-st
   let l1:=if st<m∧m<en then uU st m en l else l
   let l2:=if a<st∧st<mid then iX f a st mid l1 else l1
   if mid<en∧en<b then iX f mid en b l2 else l2
def LU(l:List α):List α:=
 if l.length<20 then lv lt 0 l.length l
 else
  let l2:=lv lt 20 l.length (lv lt 0 20 l)
  if l.length=20 then l2 else iX lt l.length 0 20 l.length l2
theorem jH(l:List α)(i j:Nat):(swp l i j).length=l.length:=by unfold swp;split<;>simp
theorem oy(l:List α)(i j:Nat):(swp l i j).Perm l:=by
 unfold swp;split
 ·rename_i h;obtain⟨hi,hj⟩:=h;rw[bC hi,bC hj];exact List.set_set_perm hi hj
 ·exact .refl _
theorem t8(a:Nat):∀(j:Nat) (l:List α),(sink lt a j l).Perm l
 | 0,l=>.refl _
 | j+1,l=>by
  unfold sink;split
  ·exact(t8 a j _).trans (oy ..)
  ·exact .refl _
theorem tM(a:Nat):∀(k i:Nat) (l:List α),(x8 lt a k i l).Perm l
 | 0,_,l=>.refl _
 | k+1,i,l=>(tM a k (i+1) _).trans (t8 lt a i l)
theorem uc(a b:Nat):∀(k i:Nat) (l:List α),(yU a b k i l).Perm l
 | 0,_,l=>.refl _
 | k+1,i,l=>(uc a b k (i+1) _).trans (oy ..)
theorem dZ(a b n:Nat)(l:List α):(Bl a b n l).Perm l:=uc a b n 0 l
theorem mn(m:Nat):∀(f i j:Nat) (l:List α),(pn m f i j l).Perm l
 | 0,_,_,l=>.refl _
 | f+1,i,j,l=>by
  unfold pn;split
  ·exact dZ ..
  ·split
   ·exact(mn m f _ _ _).trans (dZ ..)
   ·exact(mn m f _ _ _).trans (dZ ..)
theorem wY:∀(k i:Nat) (l:List α),(HH k i l).Perm l
 | 0,_,l=>.refl _
 | k+1,i,l=>(wY k (i+1) _).trans (oy ..)
theorem vt:∀(k i:Nat) (l:List α),(FZ k i l).Perm l
 | 0,_,l=>.refl _
 | k+1,i,l=>(vt k (i-1) _).trans (oy ..)
theorem mu:∀(f a m b:Nat) (l:List α),(iX lt f a m b l).Perm l
 | 0,_,_,_,l=>.refl _
 | f+1,a,m,b,l=>by
  unfold iX;split
  ·exact wY ..
  ·split
   ·exact vt ..
   ·have h1:∀(c:Prop) [Decidable c] (x y z:List α),(c→x.Perm z)→(¬c→y.Perm z)→(if c then x else y).Perm z:=fun c _ x y z hx hy=>by
     split
     ·exact hx ‹_›
     ·exact hy ‹_›
    simp only;refine h1 _ _ _ _ (fun _=>(mu f _ _ _ _).trans ?_) (fun _=>?_) <;>
    refine h1 _ _ _ _ (fun _=>(mu f _ _ _ _).trans ?_) (fun _=>?_) <;>
    exact h1 _ _ _ _ (fun _=>mn ..) (fun _=>.refl _)
end
theorem xh(p:Nat→Bool):∀(f i j:Nat),i≤j→i≤s9 p f i j∧s9 p f i j≤j
 | 0,i,j,h=>⟨Nat.le_refl _,h⟩
 | f+1,i,j,h=>by
  unfold s9;split
  ·split
   ·have:=xh p f ((i+j)/2+1) j (by omega);omega
   ·have:=xh p f i ((i+j)/2) (by omega);omega
  ·exact⟨Nat.le_refl _,h⟩
theorem nF{p:Nat→Bool}{f i j:Nat}(h:j≤i):s9 p f i j=i:=by
 cases f with
 | zero=>rfl
 | succ f=>unfold s9;rw[if_neg (by omega)]
theorem nH{p:Nat→Bool}{f i j:Nat}(h:i<j)(hp:p ((i+j)/2)=true):s9 p (f+1) i j=s9 p f ((i+j)/2+1) j:=by
 conv=>lhs;unfold s9
 rw[if_pos h,if_pos hp]
theorem nG{p:Nat→Bool}{f i j:Nat}(h:i<j)(hp:p ((i+j)/2)=false):s9 p (f+1) i j=s9 p f i ((i+j)/2):=by
 conv=>lhs;unfold s9
 rw[if_pos h,if_neg (by simp[hp])]
theorem qN{p:Nat→Bool}{i j:Nat}(h:i≤j):i≤vg p i j∧vg p i j≤j:=xh p _ i j h
theorem sT{α:Type}[Inhabited α]{lt:α→α→Bool}{f a m b:Nat}{l:List α}(k1:¬m-a=1)(k2:¬b-m=1){mid N p s0 r0 st en:Nat}(hmid:mid=(a+b)/2)(hN:N=mid+m)(hp:p=N-1)
    (hs0:s0=if mid<m then N-b else a) (hr0:r0=if mid<m then mid else m) (hst:vg (fun c => !lt (nth l (p-c)) (nth l c)) s0 r0=st) (hen:en=N-st) :
    iX lt (f+1) a m b l=(let l1:=if st<m∧m<en then uU st m en l else l
      let l2 := if a < st ∧ st < mid then iX lt f a st mid l1 else l1
      if mid < en ∧ en < b then iX lt f mid en b l2 else l2) := by
 subst hen hst hs0 hr0 hp hN hmid
 conv=>lhs;unfold iX
 rw[if_neg k1,if_neg k2]
open Go.aN
structure ik where
 at_:Int
 len:Int
 slot:Int
 deriving Inhabited
def a6(b:ik):D:=.agg [vI b.at_,vI b.len,vI b.slot]
@[simp] theorem AW(s):(a6 s).cF=a6 s:=by simp[a6]
@[simp] theorem Ir(s):(a6 s).snap=a6 s:=by simp[a6]
@[simp] theorem H2(s):(a6 s).fp=true:=by simp[a6]
@[simp] theorem H8(s):(a6 s).dS=true:=by simp[a6]
@[simp] theorem Hd(s):(a6 s).cE=true:=by simp[a6]
abbrev Ou(x:List ik):D:=rows 3 a6 x
abbrev On(x:List ik):D:=ai 3 a6 x
def td(a b:Int):Int:=if a<b then -1 else if b<a then 1 else 0
def eQ(x y:ik):Bool:=decide (td x.at_ y.at_<0)
theorem iF{l:List ik}{k:Nat}{x:ik}:(l.map a6).set k (D.agg [vI x.at_,vI x.len,vI x.slot])=(l.set k x).map a6:=by rw[List.map_set];rfl
theorem w7{n:Int}(h0:0≤n)(h:n<2^63):IntKind.u64.wrap n=n:=by
 simp only[IntKind.wrap,IntKind.signed,IntKind.bits];simp;omega
set_option maxHeartbeats 4000000
set_option maxRecDepth 4000
open Go.aN
attribute [simp] Tryz.f85 Tryz.f86 Tryz.f137
theorem Eu(g:Gl)(a:Int):a9 Tryz.prog g 137 [vI a] (.v (.bool false)):=by
 refine xA Tryz.func137 fun B S=>?_
 refine xU ?_;refine xO ?_;refine xG [0] ?_;refine bx ?_;refine xF [2] ?_;refine xZ ?_;simp
theorem Mq(g:Gl)(a b:Int):a9 Tryz.prog g 86 [vI a,vI b] (vI (td a b)):=by
 refine xA Tryz.func86 fun B S=>?_
 refine xU ?_;refine xO ?_;refine xG [0,1] ?_;refine xO ?_;refine xC (Eu g a) ?_;refine xO ?_;refine xG [0,1,5] ?_;refine xO ?_;refine xC (Eu g b) ?_;refine xH [0,1,5,6] ?_;refine ab (xU ?_);refine xO ?_;refine xQ [0,1,6,11] ?_ ?_
 ·intro h11;refine ab (xU ?_);refine xO ?_;refine xQ [12] ?_ ?_
  ·intro h12;refine xU ?_;refine xH [4] ?_;refine xZ ?_;simp[td]at * <;> first|omega|grind
  intro h12;refine af ?_;refine xT ?_;refine xH [4] ?_;refine xZ ?_;simp[td]at * <;> first|omega|grind
 intro h11;refine af fun _=>?_;refine ab (xU ?_);refine xO ?_;refine xQ [0,1,13] ?_ ?_
 ·intro i7;refine xU ?_;refine xH [4] ?_;refine xZ ?_;simp[td]at * <;> first|omega|grind
 intro i7;refine af fun _=>?_;refine ab (xU ?_);refine aT ?_;refine xQ [0,1,16] ?_ ?_
 ·intro h16;refine xU ?_;refine xH [4] ?_;refine xZ ?_;simp[td]at * <;> first|omega|grind
 intro h16;refine af fun _=>?_;refine ab (xU ?_);refine aT ?_;refine xQ [19] ?_ ?_
 ·intro h19;refine xU ?_;refine xH [4] ?_;refine xZ ?_;simp[td]at * <;> first|omega|grind
 intro h19;refine af ?_;refine xT ?_;refine xH [4] ?_;refine xZ ?_;simp[td]at * <;> first|omega|grind
theorem BN(g:Gl)(x y:ik):a9 Tryz.prog g 85 [a6 x,a6 y] (vI (td x.at_ y.at_)):=by
 refine xA Tryz.func85 fun B S=>?_
 simp only[a6,List.map,aO];refine xU ?_;refine aT ?_;refine xG [2,3] ?_;refine bx ?_;refine xC (Mq g x.at_ y.at_) ?_;refine xH [4] ?_;refine xZ ?_;simp
open Go.aN
attribute [simp] Tryz.f244
theorem B8(g:Gl)(o:aN.Obj)(l:List ik)(a b n:Nat)(hl:l.length≤2^40)(ha:a+n≤l.length)(hb:b+n≤l.length):∀B S,a7 Tryz.prog g B S ⟨[o,aN.Obj.row 3 (l.map a6)].length,true⟩ 244 [.hdr 1 0 l.length,.d (vI a),.d (vI b),.d (vI n),.fn (.func 85) [] []] [o,aN.Obj.row 3 (l.map a6)] (fun x r=>x = .bK []∧r=[o,aN.Obj.row 3 ((Bl a b n l).map a6)]):=by
 refine aL Tryz.func244 rfl (Nat.le_of_ble_eq_true rfl) fun B S=>?_
 refine xU ?_;refine xH [0,1,2,3,10] ?_;refine ag (aB (fun m σ o'=>∃(i:Nat) (l':List ik),m=n-i∧i≤n∧l'.length=l.length∧yU a b (n-i) i l'=Bl a b n l∧σ=slots [(0,.hdr 1 0 l'.length),(1,.d (vI a)),(2,.d (vI b)),(3,.d (vI n)),(10,.d (vI i))]∧o'=[o,aN.Obj.row 3 (l'.map a6)]) n .refl ⟨0,l,by simp,by simp,rfl,rfl,rfl,rfl⟩ ?_);rintro m σ o' ⟨i,l',rfl,hi,hlen,hinv,rfl,rfl⟩ _;refine ab (xU ?_);refine aT ?_;refine xQ [0,1,2,3,10,13] ?_ ?_
 ·intro i7;have hi2:i<n:=by simpa using i7
  have e1:IntKind.i64.wrap ((a:Int)+(i:Int))=(a:Int)+(i:Int):=wrap64 (by omega) (by omega);have e2:IntKind.i64.wrap ((b:Int)+(i:Int))=(b:Int)+(i:Int):=wrap64 (by omega) (by omega);have q1:0≤(a:Int)+(i:Int)∧(a:Int)+(i:Int)<(l'.length:Int):=by omega
  have q2:0≤(b:Int)+(i:Int)∧(b:Int)+(i:Int)<(l'.length:Int):=by omega
  have r1:a+i<l'.length:=by omega
  have r2:b+i<l'.length:=by omega
  have t1:((a:Int)+(i:Int)).toNat=a+i:=by omega
  have t2:((b:Int)+(i:Int)).toNat=b+i:=by omega
  refine af fun _=>?_;refine ab (ag ?_);refine aS (by kernel_rfl) [] 4 [0,1,2,3,4,5,6,7,8,9,10,11,12,13,14,15,16,17,18,19,20,21,22,23] (by decide +kernel) ?_;refine aT ?_;refine xO ?_ (h:=by simp[e1];exact .mk);refine aT ?_;refine xO ?_ (h:=by simp[e2];exact .mk);refine aT ?_;refine xO ?_ (h:=by simp[e2];exact .mk);refine xO ?_ (h:=by simp[a6,q2,t2];exact .mk);refine xO ?_ (h:=by simp[a6,r2];exact .mk);refine aT ?_;refine xO ?_ (h:=by simp[e1];exact .mk);refine xO ?_ (h:=by simp[a6,q1,t1];exact .mk);refine xO ?_ (h:=by simp[a6,r1];exact .mk);refine xO ?_ (h:=by simp[a6,q1,t1];exact .mk);refine xO ?_ (h:=by simp[splice,r1,bJ,br,dn,iF, -List.map_set];exact .mk);refine xO ?_ (h:=by simp[a6,q2,t2];exact .mk);refine xO ?_ (h:=by simp[splice,r2,bJ,br,dn,iF, -List.map_set];exact .mk);refine xF [0,1,2,3,10] ?_;refine xY ?_;refine aT ?_;refine xE [0,1,2,3,10] ?_;refine ah [0,1,2,3,10] ?_;refine ae (m':=n-(i+1)) (by omega) ⟨i+1,swp l' (a+i) (b+i),rfl,by omega,by rw[jH,hlen],?_,?_,?_⟩
  ·rw[←hinv,show n-i=n-(i+1)+1 by omega];rfl
  ·rw[wrap64 (by omega) (by omega),jH];rfl
  simp[swp,r1,r2,a6,br,dn,bC]
 intro i7;obtain rfl:i=n:=by simp at i7;omega
 refine aP (al (by simp;exact .mk) ?_ ?_)
 ·simp
 simp[←hinv,yU]
open Go.aN
attribute [simp] Tryz.f225
theorem Fc(g:Gl)(o:aN.Obj)(l:List ik)(a m b:Nat)(hl:l.length≤2^40)(ha:a<m)(hm:m<b)(hb:b≤l.length):∀B S,a7 Tryz.prog g B S ⟨[o,aN.Obj.row 3 (l.map a6)].length,true⟩ 225 [.hdr 1 0 l.length,.d (vI a),.d (vI m),.d (vI b),.fn (.func 85) [] []] [o,aN.Obj.row 3 (l.map a6)] (fun x r=>x = .bK []∧r=[o,aN.Obj.row 3 ((uU a m b l).map a6)]):=by
 refine aL Tryz.func225 rfl (Nat.le_of_ble_eq_true rfl) fun B S=>?_
 refine ab ?_;have e1:IntKind.i64.wrap ((m:Int)-(a:Int))=((m-a:Nat):Int):=by rw[wrap64 (by omega) (by omega)];omega
 have e2:IntKind.i64.wrap ((b:Int)-(m:Int))=((b-m:Nat):Int):=by rw[wrap64 (by omega) (by omega)];omega
 refine xY ?_;refine ay ?_;refine xO ?_ (h:=by simp[e1];exact .mk);refine xO ?_;refine xG [0,2,3,4,10] ?_;refine ay ?_;refine xO ?_ (h:=by simp[e2];exact .mk);refine xH [0,2,4,10,11] ?_;refine ab (ag ?_);refine aB (fun f σ o'=>∃(i j:Nat) (l':List ik),1≤i∧i≤m∧1≤j∧m+j≤l'.length∧i+j≤f∧l'.length=l.length∧pn m f i j l'=uU a m b l∧σ=slots [(0,.hdr 1 0 l'.length),(2,.d (vI m)),(4,.fn (.func 85) [] []),(10,.d (vI i)),(11,.d (vI j))]∧o'=[o,aN.Obj.row 3 (l'.map a6)]) (m-a+(b-m)) (Weak.kills [0,2,4,10,11] rfl) ⟨m-a,b-m,l,by omega,by omega,by omega,by omega,by omega,rfl,rfl,rfl,rfl⟩ ?_;rintro f σ o' ⟨i,j,l',hi1,him,hj1,Qe,hf,hlen,hinv,rfl,rfl⟩ _;obtain⟨f,rfl⟩:∃f',f=f'+1:=⟨f-1,by omega⟩;refine ab (xU ?_);refine aT ?_;refine xQ [0,2,4,10,11,20] ?_ ?_
 ·intro h20;have hne:i≠j:=by simp at h20;omega
  refine af fun _=>?_;refine ag (xU ?_);refine aT ?_;refine xQ [0,2,4,10,11,23] ?_ ?_
  ·intro h23;have hlt:j<i:=by simpa using h23
   have e1:IntKind.i64.wrap ((m:Int)-(i:Int))=((m-i:Nat):Int):=by rw[wrap64 (by omega) (by omega)];omega
   have e2:IntKind.i64.wrap ((i:Int)-(j:Int))=((i-j:Nat):Int):=by rw[wrap64 (by omega) (by omega)];omega
   refine xU ?_;refine aT ?_;refine xO ?_ (h:=by simp[e1];exact .mk);refine aT ?_;refine az rfl rfl rfl rfl (by simp;exact .mk) ⟨_,Tryz.func244,rfl,rfl⟩ (B8 g o l' (m-i) (m) (j) (by omega) (by omega) (by omega)) (.inl (by simp)) ?_;refine xF [0,2,4,10,11] ?_;refine xY ?_;refine ay ?_;refine xO ?_ (h:=by simp[e2];exact .mk);refine xO ?_;refine xE [0,2,4,10,11] ?_;refine ah [0,2,4,10,11] ?_;first
   | exact ae (m':=f) (by omega) ⟨i-j,j,Bl (m-i) m j l',by omega,by omega,by omega,by rw[(dZ ..).length_eq];omega,by omega,by rw[(dZ ..).length_eq,hlen],by rw[←hinv,pn,if_neg hne,if_pos hlt],by rw[(dZ ..).length_eq];rfl,rfl⟩
   | exact ae (m':=f) (by omega) ⟨i,j-i,Bl (m-i) (m+j-i) i l',by omega,by omega,by omega,by rw[(dZ ..).length_eq];omega,by omega,by rw[(dZ ..).length_eq,hlen],by rw[←hinv,pn,if_neg hne,if_neg (by omega)],by rw[(dZ ..).length_eq];rfl,rfl⟩
  intro h23;have hlt:i<j:=by simp at h23;omega
  have e1:IntKind.i64.wrap ((m:Int)-(i:Int))=((m-i:Nat):Int):=by rw[wrap64 (by omega) (by omega)];omega
  have e2:IntKind.i64.wrap ((j:Int)-(i:Int))=((j-i:Nat):Int):=by rw[wrap64 (by omega) (by omega)];omega
  have e3:IntKind.i64.wrap ((m:Int)+(j:Int))=(m:Int)+(j:Int):=wrap64 (by omega) (by omega);have e4:IntKind.i64.wrap ((m:Int)+(j:Int)-(i:Int))=((m+j-i:Nat):Int):=by rw[wrap64 (by omega) (by omega)];omega
  refine xU ?_;refine aT ?_;refine xO ?_ (h:=by simp[e1];exact .mk);refine ay ?_;refine xO ?_ (h:=by simp[e3];exact .mk);refine xO ?_;refine xO ?_ (h:=by simp[e3,e4];exact .mk);refine ay ?_;refine az rfl rfl rfl rfl (by simp;exact .mk) ⟨_,Tryz.func244,rfl,rfl⟩ (B8 g o l' (m-i) (m+j-i) (i) (by omega) (by omega) (by omega)) (.inl (by simp)) ?_;refine xF [0,2,4,10,11] ?_;refine xY ?_;refine ay ?_;refine xO ?_ (h:=by simp[e2];exact .mk);refine xO ?_;refine xE [0,2,4,10,11] ?_;refine ah [0,2,4,10,11] ?_;first
  | exact ae (m':=f) (by omega) ⟨i-j,j,Bl (m-i) m j l',by omega,by omega,by omega,by rw[(dZ ..).length_eq];omega,by omega,by rw[(dZ ..).length_eq,hlen],by rw[←hinv,pn,if_neg hne,if_pos hlt],by rw[(dZ ..).length_eq];rfl,rfl⟩
  | exact ae (m':=f) (by omega) ⟨i,j-i,Bl (m-i) (m+j-i) i l',by omega,by omega,by omega,by rw[(dZ ..).length_eq];omega,by omega,by rw[(dZ ..).length_eq,hlen],by rw[←hinv,pn,if_neg hne,if_neg (by omega)],by rw[(dZ ..).length_eq];rfl,rfl⟩
 intro h20;obtain rfl:i=j:=by simp at h20;omega
 have e1:IntKind.i64.wrap ((m:Int)-(i:Int))=((m-i:Nat):Int):=by rw[wrap64 (by omega) (by omega)];omega
 have hr:uU a m b l=Bl (m-i) m i l':=by rw[←hinv,pn,if_pos rfl]
 refine aP ?_;rintro -;refine xY ?_;refine aT ?_;refine xO ?_ (h:=by simp[e1];exact .mk);refine aT ?_;refine az rfl rfl rfl rfl (by simp;exact .mk) ⟨_,Tryz.func244,rfl,rfl⟩ (B8 g o l' (m-i) (m) (i) (by omega) (by omega) (by omega)) (.inl (by simp)) ?_;refine xE [] ?_;refine al (by simp;exact .mk) ?_ ?_
 ·simp
 simp[hr]
open Go.aN
attribute [simp] Tryz.f194
theorem E9(g:Gl)(o:aN.Obj)(l:List ik)(a b:Nat)(hl:l.length≤2^40)(ha:a≤b)(hb:b≤l.length):∀B S,a7 Tryz.prog g B S ⟨[o,aN.Obj.row 3 (l.map a6)].length,true⟩ 194 [.hdr 1 0 l.length,.d (vI a),.d (vI b),.fn (.func 85) [] []] [o,aN.Obj.row 3 (l.map a6)] (fun x r=>x = .bK []∧r=[o,aN.Obj.row 3 ((lv eQ a b l).map a6)]):=by
 refine aL Tryz.func194 rfl (Nat.le_of_ble_eq_true rfl) fun B S=>?_
 refine ab ?_;have e1:IntKind.i64.wrap ((a:Int)+1)=((a+1:Nat):Int):=by rw[wrap64 (by omega) (by omega)];simp
 refine xY ?_;refine xO ?_;refine xO ?_ (h:=by simp[e1];exact .mk);refine xH [0,1,2,3,8] ?_;refine ag (aB (fun f σ o'=>∃(i:Nat) (l':List ik),f=b-i∧a+1≤i∧(i≤b∨i=a+1)∧l'.length=l.length∧x8 eQ a (b-i) i l'=lv eQ a b l∧σ=slots [(0,.hdr 1 0 l'.length),(1,.d (vI a)),(2,.d (vI b)),(3,.fn (.func 85) [] []),(8,.d (vI i))]∧o'=[o,aN.Obj.row 3 (l'.map a6)]) (b-(a+1)) (Weak.kills [0,1,2,3,8] rfl) ⟨a+1,l,rfl,by omega,by omega,rfl,rfl,rfl,rfl⟩ ?_);rintro f σ o' ⟨i,l',rfl,hai,hib,hlen,hinv,rfl,rfl⟩ _;refine ab (xU ?_);refine aT ?_;refine xQ [0,1,2,3,8,14] ?_ ?_
 ·intro fe;have hlt:i<b:=by simp at fe;omega
  refine af fun _=>?_;refine ab (ag ?_);refine xU ?_;refine bU [0,1,2,3,8,9] ?_;refine ag (aB (fun f σ o'=>∃(j:Nat) (l2:List ik),f=j∧j≤i∧l2.length=l.length∧sink eQ a j l2=sink eQ a i l'∧σ=slots [(0,.hdr 1 0 l2.length),(1,.d (vI a)),(2,.d (vI b)),(3,.fn (.func 85) [] []),(8,.d (vI i)),(9,.d (vI j))]∧o'=[o,aN.Obj.row 3 (l2.map a6)]) i (Weak.kills [0,1,2,3,8,9] rfl) ⟨i,l',rfl,by omega,hlen,rfl,rfl,rfl⟩ ?_);rintro f σ o' ⟨j,l2,rfl,hji,ll,et,rfl,rfl⟩ _;refine ab (ab ?_);have q1:f<l2.length:=by omega
  have q0:a<f→IntKind.i64.wrap ((f:Int)-1)=((f-1:Nat):Int):=fun h=>by rw[wrap64 (by omega) (by omega)];omega
  have q2:a<f→0≤IntKind.i64.wrap ((f:Int)-1)∧IntKind.i64.wrap ((f:Int)-1)<(l2.length:Int):=fun h=>by rw[q0 h];omega
  have q3:a<f→(IntKind.i64.wrap ((f:Int)-1)).toNat<l2.length:=fun h=>by rw[q0 h];omega
  refine aS (by kernel_rfl) [] 4 [0,1,2,3,4,5,6,7,8,9,10,11,12,13,14,15,16] (by decide +kernel) ?_;refine bx ?_;iterate 3 refine xI ?_
  refine xI ?_ (h:=fun hb=>by simp[a6,q1];exact .mk);refine xI ?_ (h:=fun hb=>by simp[-List.getElem?_map,ao q1,a6];exact .mk);iterate 3 refine xI ?_
  refine bg rfl (by simp;exact .mk) rfl (by simp<;>first|omega|grind) (fun hb=>by have q:=q2 (by simpa using hb);simp[q];exact .mk) ?_;refine bg rfl (by simp;exact .mk) rfl (by simp<;>first|omega|grind) (fun hb=>by have q:=q3 (by simpa using hb);simp[-List.getElem?_map,ao q,a6];exact .mk) ?_;refine bI rfl (by simp;exact .mk) rfl rfl (by simp) (by simp;exact .mk) (by simp;exact .mk) (fun hb=>BN g (nth l2 f) (nth l2 (IntKind.i64.wrap ((f:Int)-1)).toNat)) (by simp) (by simp;exact .mk) (by simp) ?_;refine xI ?_;refine xP ?_;refine xQ [0,1,2,3,8,9,34] ?_ ?_
  ·intro DO;have hlt2:a<f:=by simp at DO;omega
   have hc:eQ (nth l2 f) (nth l2 (f-1))=true:=by
    have:=q0 hlt2;simp[this]at DO;simp[eQ];omega
   obtain⟨j,rfl⟩:∃j,f=j+1:=⟨f-1,by omega⟩;have e1:IntKind.i64.wrap (j:Int)=(j:Int):=wrap64 (by omega) (by omega);have r2:j<l2.length:=by omega
   have q5:0≤(j:Int)+1∧(j:Int)+1<(l2.length:Int):=by omega
   refine af fun _=>?_;refine ab (ag ?_);refine aS (by kernel_rfl) [] 4 [0,1,2,3,4,5,6,7,8,9,10,11,12,13,14,15,16,17] (by decide +kernel) ?_;refine bx ?_;refine xO ?_ (h:=by simp[e1];exact .mk);refine ay ?_;refine xO ?_ (h:=by simp[e1];exact .mk);iterate 2 (refine xO ?_ (h:=by simp[a6,r2];exact .mk))
   refine ay ?_;refine xO ?_ (h:=by simp[a6,q5];exact .mk);refine xO ?_ (h:=by simp[a6,q1];exact .mk);refine xO ?_ (h:=by simp[a6,q5];exact .mk);refine xO ?_ (h:=by simp[splice,q1,bJ,br,dn,iF, -List.map_set];exact .mk);refine xO ?_ (h:=by simp[a6,r2];exact .mk);refine xO ?_ (h:=by simp[splice,r2,bJ,br,dn,iF, -List.map_set];exact .mk);refine xF [0,1,2,3,8,9] ?_;refine xY ?_;refine xO ?_;refine xO ?_ (h:=by simp[e1];exact .mk);refine xO ?_;refine xE [0,1,2,3,8,9] ?_;refine ah [0,1,2,3,8,9] ?_;refine ae (m':=j) (by omega) ⟨j,swp l2 (j+1) j,rfl,by omega,by rw[jH,ll],?_,?_,?_⟩
   ·rw[←et,sink,if_pos ⟨hlt2,hc⟩]
   ·rw[jH];simp[e1]
   simp[swp,q1,r2,a6,br,dn,bC]
  intro DO
  have hs:sink eQ a i l'=l2:=by
   rw[←et]
   cases f with
   | zero=>rfl
   | succ j=>
    rw[sink,if_neg];rintro⟨h1,h2⟩;have:=q0 h1;rw[this]at DO;simp[h1]at DO;simp[eQ]at h2;omega
  have e2:IntKind.i64.wrap ((i:Int)+1)=((i+1:Nat):Int):=by rw[wrap64 (by omega) (by omega)];simp
  refine aP ?_;rintro -;refine xY ?_;refine xO ?_;refine xO ?_ (h:=by simp[e2];exact .mk);refine xO ?_;refine xE [0,1,2,3,8] ?_;refine ah [0,1,2,3,8] ?_;refine ae (m':=b-(i+1)) (by omega) ⟨i+1,l2,rfl,by omega,by omega,ll,?_,rfl,rfl⟩;rw[←hinv,←hs,show b-i=b-(i+1)+1 by omega];rfl
 intro fe;have hr:lv eQ a b l=l':=by rw[←hinv,show b-i=0 by simp at fe;omega];rfl
 refine aP (al (by simp;exact .mk) ?_ ?_)
 ·simp
 simp[hr]
end Go.Proofs
