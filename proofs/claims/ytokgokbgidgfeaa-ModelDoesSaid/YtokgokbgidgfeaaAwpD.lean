/- Lemmas of a walk over abstract states: data, objects, operations, regions, loops, contracts; no condition but those that each lemma names. -/
import Derived.Test.YtokgokbgidgfeaaAwpC
import Derived.RangeFuncRecord
import Derived.RangeFuncIn
import Derived.RangeFuncLeaves
set_option linter.all false
/- The walk over abstract states, in a round's frame and with marks among the deferred calls: ranges over functions. Lemmas alone. -/
namespace Go.Awp
open Go.RowKit Go.Lib

def FI (ro : Option Nat) : Fence := { Fence.wide with round := ro }

def noDef (ops : Array Oper) : Bool := ops.all fun o => match o.op with | .defer _ => false | _ => true

def up (ds : List Deferred) (a : Act) : Act := { a with defers := a.defers ++ ds }

section
variable {P : Program} {ops : Array Oper} {ro : Option Nat} {n : Nat} {ds : List Deferred}

def UpQ (ds : List Deferred) (Q : Exit → Act → World → Prop) : Exit → Act → World → Prop := fun e a w => ∃ a0, a = up ds a0 ∧ Q e a0 w

end

abbrev Qd := List Deferred → Qt

def WI (P : Program) (g : Gl) (B : Nat) (S : Nat → Prop) (n : Nat) (fl : Fl) (ro : Option Nat) (ds : List Deferred) (c : Code) (s : Nat → AV) (objs : List Obj) (Q : Qd) : Prop :=
 ∀ a w gs om, g.G w → g.N ≤ B → RelM B w S objs gs om → RelF n s a w S (Inner B w om) gs → fl.n ≤ objs.length →
  c.wpIn (FI ro) 0 P (fun e a' w' => ∃ a0 ds', a' = up ds' a0 ∧ Post B S n fl w gs om (Q ds') e a0 w') (up ds a) w

def ThenI (P : Program) (g : Gl) (B : Nat) (S : Nat → Prop) (n : Nat) (fl : Fl) (ro : Option Nat) (c : Code) (Q : Qd) : Qd := fun ds e s objs => match e with
 | .normal => fl.n ≤ objs.length → WI P g B S n fl ro ds c s objs Q
 | e => Q ds e s objs

def InBlkI (id : Nat) (Q : Qd) : Qd := fun ds => InBlk id (Q ds)

section
variable {P : Program} {g : Gl} {B : Nat} {S : Nat → Prop} {n : Nat} {fl : Fl} {ro : Option Nat} {ds : List Deferred} {s : Nat → AV} {objs : List Obj} {Q : Qd} {ops : Array Oper}

end
end Go.Awp

/- Ranges over functions: the record and the block among the objects. Lemmas alone. -/
namespace Go.Awp
open Go.RowKit Go.Lib

section
variable {P : Program} {g : Gl} {B : Nat} {S : Nat → Prop} {n : Nat} {fl : Fl} {ro : Option Nat} {ds : List Deferred} {w : World} {gs : List G1} {om : Nat → Option (Nat × Bool)} {s : Nat → AV} {objs : List Obj} {Q : Qd} {ops : Array Oper}

theorem RelM.putO (hM : RelM B w S objs gs om) {r b : Nat} {x : Go.Obj} {o' : Obj} (hB : B ≤ b) (hlt : b < w.heap.size) (ho : om b = some (r, true))
    (hn : Ext B w gs om (w.putObj b x) gs om → RelO B (w.putObj b x) S gs om r o') : Ext B w gs om (w.putObj b x) gs om ∧ RelM B (w.putObj b x) S (objs.set r o') gs om := by
 have other : ∀ k, k ≠ b → (w.putObj b x).heap[k]? = w.heap[k]? := fun k hk => World.putObj_heap_other hk
 have e : Ext B w gs om (w.putObj b x) gs om := ⟨List.prefix_rfl, ⟨rfl, rfl, rfl, by simp, fun k hk => other k (by omega)⟩, fun k hk => ⟨⟨hk.1, by simpa using hk.2.1, hk.2.2⟩, other k (fun e => hk.2.2 r (by rw [e]; exact ho))⟩⟩
 refine ⟨e, hM.step e (by simp [hM.len]) fun r' o ho' => ?_⟩
 rcases get_set ho' with ⟨rfl, rfl⟩ | ⟨hne, h'⟩
 · exact .inr (hn e)
 · refine .inl ⟨h', fun k c hk _ => ⟨hk, other k (fun e => ?_)⟩⟩
   subst e; rw [ho] at hk; simp at hk; exact hne hk.1.symm

theorem RelM.shut (hM : RelM B w S objs gs om) {r b} (hr : objs[r]? = some (.blk b)) :
    (Instr.takeDeferred b).run P w = .ok [] (w.putObj b (.deferred none)) ∧ Ext B w gs om (w.putObj b (.deferred none)) gs om ∧ RelM B (w.putObj b (.deferred none)) S (objs.set r .dead) gs om := by
 cases hM.obj r _ hr with
 | blk hg hb hB ho hw =>
  have hlt : b < w.heap.size := (Array.getElem?_eq_some_iff.1 hw).1
  exact ⟨run_takeDeferred hw, hM.putO hB hlt ho fun e => .dead⟩

end
end Go.Awp

/- Ranges over functions: loops in a round's frame, a function's end with marks. Lemmas alone. -/
namespace Go.Awp
open Go.RowKit Go.Lib

def RoundsI (B : Nat) (S : Nat → Prop) (n : Nat) (fl : Fl) (ds : List Deferred) (I : Nat → (Nat → AV) → List Obj → Prop) (m : Nat) (Q : Qd) : Qd := fun ds' e s' o' => match e with
 | .normal => ds' = ds ∧ ∃ m', m' < m ∧ ∃ s2 o2, Weak B S n fl s' o' s2 o2 ∧ I m' s2 o2
 | e => Q ds' e s' o'

inductive Shut : List Deferred → List Obj → List Obj → Prop
 | nil {o} : Shut [] o o
 | cons {b a ds o o2 r} (hr : o[r]? = some (.blk b)) (t : Shut ds (o.set r .dead) o2) : Shut ({ target := .collected b, args := a } :: ds) o o2

def EndInM (P : Program) (fn : Func) (fl : Nat) (K : AV → List Obj → Prop) : Qd := fun ds e s objs => match e with
 | .normal | .ret => ∃ objs2, Shut ds objs objs2 ∧ ∃ as m, ressA P s objs2 fn.results.toList = some as ∧ fl ≤ m ∧ (tupA as).lt m = true ∧ objsLt m (objs2.take m) = true ∧ K (tupA as) (objs2.take m)
 | _ => False

section
variable {P : Program} {g : Gl} {B : Nat} {S : Nat → Prop} {n : Nat} {fl : Fl} {ro : Option Nat} {ds : List Deferred} {w : World} {gs : List G1} {om : Nat → Option (Nat × Bool)} {s : Nat → AV} {objs : List Obj} {Q : Qd} {ops : Array Oper}

end
end Go.Awp

/- Ranges over functions: the call of yield, the statement. Lemmas alone. -/
namespace Go.Awp
open Go.RowKit Go.Lib

section
variable {P : Program} {g : Gl} {B : Nat} {S : Nat → Prop} {n : Nat} {fl : Fl} {ro : Option Nat} {ds : List Deferred} {w : World} {gs : List G1} {om : Nat → Option (Nat × Bool)} {s : Nat → AV} {objs : List Obj} {Q : Qd} {ops : Array Oper}

def roundS (ps : List Tmp) (as : List AV) (s : Nat → AV) : Nat → AV := (ps.zip as).foldl (fun s p => upd s p.1 p.2) s

def RoundI (P : Program) (g : Gl) (B : Nat) (S : Nat → Prop) (lb r : Nat) (c : LoopC) (L : List (Nat × AV)) (as : List AV) (objs : List Obj) (J : Bool → List Obj → Prop) : Prop :=
 WI P g B S c.n ⟨objs.length, true⟩ (some lb) [] c.assign (roundS c.params.toList as (slots L)) objs (fun ds e s o => e = .normal ∧ ds = [] ∧ o[r]? = some (.lp lb c L .ready none) ∧
   (objs.length ≤ o.length → WI P g B S c.n ⟨objs.length, true⟩ (some lb) [] c.body s (o.set r (.lp lb c L .busy none)) (fun _ e _ o => o[r]? = some (.lp lb c L .busy none) ∧ match e with
     | .normal => J true (o.set r (.lp lb c L .ready none))
     | .ret => J false (o.set r (.lp lb c L .done (some .ret)))
     | .exit id => J false (o.set r (.lp lb c L .done (some (.exit id))))
     | _ => False)))

end
end Go.Awp

/- Ranges over functions: a region with a call of yield; the statement. Lemmas alone. -/
namespace Go.Awp
open Go.RowKit Go.Lib

section
variable {P : Program} {g : Gl} {B : Nat} {S : Nat → Prop} {n : Nat} {fl : Fl} {ro : Option Nat} {ds : List Deferred} {w : World} {gs : List G1} {om : Nat → Option (Nat × Bool)} {s : Nat → AV} {c : Nat → Bool} {objs : List Obj} {Q : Qd} {ops : Array Oper}

def YldK (P : Program) (g : Gl) (n : Nat) (ops : Array Oper) (i : Nat) (l2 : List Nat) (K : (Nat → AV) → (Nat → Bool) → List Obj → Prop) : (Nat → AV) → (Nat → Bool) → List Obj → Prop := fun s1 c1 o1 =>
 ∃ (o : Oper) (cl : Call) (x : Operand) (as : List AV) (lb r : Nat) (c : LoopC) (L : List (Nat × AV)) (J : Bool → List Obj → Prop), ops[i]? = some o ∧ o.guard = none ∧ dstOk n o.dst = true ∧ o.op = .call cl ∧ cl.callee = .value x ∧
  evalA (told s1 c1) x = .fn (.yield lb) [] [] ∧ cl.args.toList.map (evalA (told s1 c1)) = as ∧ o1[r]? = some (.lp lb c L .ready none) ∧ c.params.size = as.length ∧ (∀ p ∈ c.params.toList, p < c.n) ∧
  (∀ B S, RoundI P g B S lb r c L as o1 J) ∧ ∀ b o2, J b o2 → Run P g n ops (List.range ops.size) l2 (put s1 o.dst (.d (.v (.bool b)))) (updB c1 o.dst true) o2 K

end
end Go.Awp

/- Ranges over functions: the statement. Lemmas alone. -/
namespace Go.Awp
open Go.RowKit Go.Lib

abbrev markD (b : Nat) : Deferred := { target := .collected b, args := #[] }

section
variable {P : Program} {g : Gl} {B : Nat} {S : Nat → Prop} {n : Nat} {fl : Fl} {ro : Option Nat} {ds : List Deferred} {w : World} {gs : List G1} {om : Nat → Option (Nat × Bool)} {s : Nat → AV} {c : Nat → Bool} {objs : List Obj} {Q : Qd} {ops : Array Oper}

def Pending (Q : Qt) (s : Nat → AV) (o : List Obj) : Option Code → Prop
 | none => Q .normal s o
 | some .ret => Q .ret s o
 | some (.exit id) => Q (.exit id) s o
 | _ => False

end
end Go.Awp

/- Ranges over functions: rounds of loops, calls in place behind a guard that is known, a function's end. Lemmas alone. -/
namespace Go.Awp
open Go.RowKit Go.Lib
section
variable {P : Program} {g : Gl} {B : Nat} {S : Nat → Prop} {n : Nat} {fl : Fl} {ro : Option Nat} {ds : List Deferred} {s : Nat → AV} {objs : List Obj} {Q : Qd} {ops : Array Oper} {hard : List Nat}
end
end Go.Awp

/- What the walk's lines unfold. -/
namespace Go.Awp
open Go.RowKit
attribute [simp] boxA AV.cells AV.isCell allocA Value.oneCell' buildA fillA placesOf storeA makeSliceA elemD maxLen kinds kDs kD eqA eqFs isStructTy eqlNeq strOp isBoolTy isPtrTy isFnTy unA buildSliceA inOrder cls cl elemsD nrmKs appendA srcA tmpO dstA isNilA calleeA kindsOf expAs expA impA impAs D.noRo D.noSn nrmR nrmRs nrmK
/- The rules again, their easy parts left to their own tactics. -/
section
variable {P : Program} {g : Gl} {B : Nat} {S : Nat → Prop} {n : Nat} {fl : Fl} {s : Nat → AV} {c : Nat → Bool} {objs : List Obj} {Q : Qt} {ops : Array Oper} {hard : List Nat} {K : (Nat → AV) → (Nat → Bool) → List Obj → Prop}
theorem xO {i l} {o : Oper} {av objs'} (k : Run P g n ops hard l (put s o.dst av) allT objs' K) (ho : ops[i]? = some o := by exact rfl) (hg : o.guard = none := by exact rfl) (hd : dstOk n o.dst = true := by exact rfl)
    (h : Got (opA P (evalA s) objs o.op) (some (av, objs')) := by simp; exact .mk) : Run P g n ops hard (i :: l) s allT objs K := run_op ho hg hd h k
theorem xI {i l} {o : Oper} {b av} (k : Run P g n ops hard l (put s o.dst av) (updB c o.dst b) objs K) (ho : ops[i]? = some o := by exact rfl) (hg : Got (guardB ops s c o.guard) (some b) := by simp; exact .mk) (hd : dstOk n o.dst = true := by exact rfl)
    (hx : argsOk b c o.op.operands.toList := by simp <;> first | omega | grind) (h : b = true → Got (opA P (evalA s) objs o.op) (some (av, objs)) := by intro hb; simp; exact .mk) : Run P g n ops hard (i :: l) s c objs K := run_if ho hg hd hx h k
theorem xB {i l} {o : Oper} {av objs'} (k : Run P g n ops hard l (put s o.dst av) (updB c o.dst true) objs' K) (ho : ops[i]? = some o := by exact rfl) (hg : o.guard = none := by exact rfl) (hd : dstOk n o.dst = true := by exact rfl)
    (hx : argsOk true c o.op.operands.toList := by simp <;> first | omega | grind) (h : Got (opA P (evalA s) objs o.op) (some (av, objs')) := by simp; exact .mk) : Run P g n ops hard (i :: l) s c objs K := run_op1 ho hg hd hx h k
theorem xP {i l} {o : Oper} {x y z b t av b'} (k : Run P g n ops hard l (put s o.dst av) (updB c o.dst b') objs K) (ho : ops[i]? = some o := by exact rfl) (hg : Got (guardB ops s c o.guard) (some b) := by simp; exact .mk) (hd : dstOk n o.dst = true := by exact rfl) (hp : o.op = .pick x y z := by exact rfl)
    (hx : argsOk b c [x] := by simp <;> first | assumption | omega | grind) (ht : Got (evalA s x) (.d (.v (.bool t))) := by simp; exact .mk) (hav : Got (bif t then evalA s y else evalA s z) av := by simp; exact .mk) (hb : Got (b && (bif t then condOf c y else condOf c z)) b' := by simp; exact .mk) :
    Run P g n ops hard (i :: l) s c objs K := run_pick ho hg hd hp hx ht hav hb k
theorem xE (live : List Nat) {L} (h : Q .normal (slots L) objs) (hc : allOk c live := by simp <;> first | omega | grind) (hL : Got (pickL s live) L := by simp; exact .mk) : Run P g n ops hard [] s c objs (Ends Q) := run_end live hc hL h
theorem xT {id l d} (h : Run P g n ops l l s allT objs (Ends (Then P g B S n fl d Q))) (hl : Got (List.range ops.size) l := by exact .mk) : Then P g B S n fl (.seq (.region id ops false) d) Q .normal s objs := fun _ => W_seq (W_reg hl h)
theorem xU {id l d} (h : Run P g n ops l l s allT objs (Ends (Then P g B S n fl d Q))) (hl : Got (List.range ops.size) l := by exact .mk) : W P g B S n fl (.seq (.region id ops false) d) s objs Q := W_seq (W_reg hl h)
theorem xR {fn : Func} {r as d objs'} (h1 : Got (ressA P s objs fn.results.toList) (some as)) (h3 : (nrmR (kindsOf P fn.resultTypes.toList) d).1 = r) (h2 : Got (cl objs (tupA as)) (some (d, objs')) := by simp; exact .mk) (h4 : r.noSn = true := by simp) : EndOut P fn r .ret s objs := end_ret h1 h2 h3 h4
end
end Go.Awp

/- Ways that part and meet again: a drawn region with ties, and a piece of code whose branches come to one state. Lemmas alone. -/
namespace Go.Awp
open Go.RowKit Go.Lib
section
variable {P : Program} {g : Gl} {B : Nat} {S : Nat → Prop} {n : Nat} {fl : Fl} {s : Nat → AV} {objs : List Obj} {Q : Qt} {ops : Array Oper} {hard : List Nat}
theorem W_regDTK {id c} (A : List Nat) (hko : KeepOk fl ops hard) (hm : P.follows .mixedOrders = true) (d : Nat) (o1 : List Nat) (os : List (List Nat)) (hos : (permsOf A).all (fun π => badPerm ops A π || (o1 :: os).any fun o => okOrder2 ops hard (pairsAll π) d o) = true)
    (h : Run P g n ops hard o1 s allT objs (Ends fun _ s' o' => ∃ L, s' = slots L ∧ AllP (fun o => Run P g n ops hard o s allT objs (Ends fun _ s2 o2 => Weak B S n fl s2 o2 (slots L) o')) os ∧ Then P g B S n fl c Q .normal (slots L) o')) :
    W P g B S n fl (.region id ops true) s objs (Then P g B S n fl c Q) := by
 obtain ⟨s1, c1, o', t1, L1, e1, L, e2, h2, hc⟩ := h
 refine (W_regDT A hko hm d (o1 :: os) hos (Q := fun e s' o2 => e = .normal ∧ Weak B S n fl s' o2 (slots L) o') ⟨⟨s1, c1, o', t1, L1, e1, rfl, by rw [e2]; exact Weak.refl⟩, ?_⟩).mono fun e s' o' ⟨h1, h2⟩ => ?_
 · have : ∀ {os : List (List Nat)}, AllP (fun o => Run P g n ops hard o s allT objs (Ends fun _ s' o2 => Weak B S n fl s' o2 (slots L) o')) os → AllP (fun o => Run P g n ops hard o s allT objs (Ends fun e s' o2 => e = .normal ∧ Weak B S n fl s' o2 (slots L) o')) os := by
    intro os
    induction os with
    | nil => intro _; trivial
    | cons o os ih =>
     rintro ⟨⟨s1, c1, o1, t1, L1, e1, e2⟩, h⟩
     exact ⟨⟨s1, c1, o1, t1, L1, e1, rfl, e2⟩, ih h⟩
   exact this h2
 · subst h1; exact then_weak h2 hc
end
end Go.Awp

/- A call's rule again, its easy parts left to their own tactics. Lemmas alone. -/
namespace Go.Awp
open Go.RowKit Go.Lib
section
variable {P : Program} {g : Gl} {n : Nat} {s : Nat → AV} {objs : List Obj} {ops : Array Oper} {hard : List Nat} {K : (Nat → AV) → (Nat → Bool) → List Obj → Prop}
theorem xC {i l} {o : Oper} {cl : Call} {f as ds q r av objs'} (ct : CtAt P g f ds r) (k : Run P g n ops hard l (put s o.dst av) allT objs' K) (ho : ops[i]? = some o := by exact rfl) (hg : o.guard = none := by exact rfl) (hd : dstOk n o.dst = true := by exact rfl)
    (hc : o.op = .call cl := by exact rfl) (h : Got (calleeA (evalA s) cl) (some (f, as)) := by simp; exact .mk) (he : Got (expAs objs (kindsOf P cl.argTypes.toList) as) (some (ds, q)) := by simp; exact .mk) (hn : r.noRo = true := by simp)
    (hi : Got (impA objs r) (some (av, objs')) := by simp; exact .mk) : Run P g n ops hard (i :: l) s allT objs K := run_call0 ho hg hd hc h he ct hn hi k
end
end Go.Awp

/- A piece of code whose branches come to one state, up to what is not needed any more. Lemmas alone. -/
namespace Go.Awp
open Go.RowKit Go.Lib
section
variable {P : Program} {g : Gl} {B : Nat} {S : Nat → Prop} {n : Nat} {fl : Fl} {s : Nat → AV} {objs : List Obj} {Q : Qt}
theorem W_joinW {c d} (L2 : List (Nat × AV)) (objs2 : List Obj) (h1 : W P g B S n fl c s objs (fun e s' o' => e = .normal ∧ Weak B S n fl s' o' (slots L2) objs2)) (h2 : Then P g B S n fl d Q .normal (slots L2) objs2) : W P g B S n fl c s objs (Then P g B S n fl d Q) :=
 h1.mono fun e s' o' ⟨e1, e2⟩ => by subst e1; exact then_weak e2 h2
end
end Go.Awp

/- Two lines of a walk in one. Lemmas alone. -/
namespace Go.Awp
open Go.RowKit Go.Lib
section
variable {P : Program} {g : Gl} {B : Nat} {S : Nat → Prop} {n : Nat} {fl : Fl} {s : Nat → AV} {c : Nat → Bool} {objs : List Obj} {Q : Qt} {ops : Array Oper} {hard : List Nat}
theorem xF (live : List Nat) {L d} (h : W P g B S n fl d (slots L) objs Q) (hc : allOk c live := by simp <;> first | omega | grind) (hL : Got (pickL s live) L := by simp; exact .mk) : Run P g n ops hard [] s c objs (Ends (Then P g B S n fl d Q)) := xE live (fun _ => h) hc hL
theorem xG (live : List Nat) {L id l d ops2} (h : Run P g n ops2 l l (slots L) allT objs (Ends (Then P g B S n fl d Q))) (hc : allOk c live := by simp <;> first | omega | grind) (hL : Got (pickL s live) L := by simp; exact .mk) (hl : Got (List.range ops2.size) l := by exact .mk) :
    Run P g n ops hard [] s c objs (Ends (Then P g B S n fl (.seq (.region id ops2 false) d) Q)) := xE live (xT h hl) hc hL
theorem xK {d} (h : W P g B S n fl d s objs Q) : W P g B S n fl .skip s objs (Then P g B S n fl d Q) := W_skip fun _ => h
end
end Go.Awp

/- Rows of bytes written over in all of their room. Lemmas alone. -/
namespace Go.Awp
open Go.RowKit Go.Lib
section
variable {P : Program} {g : Gl} {B : Nat} {S : Nat → Prop} {n : Nat} {fl : Fl} {w : World} {gs : List G1} {om : Nat → Option (Nat × Bool)} {s : Nat → AV} {objs : List Obj} {Q : Qt} {ops : Array Oper}

theorem W_weakE {α : Type} {c : Code} {p : α → Prop} {s' : α → Nat → AV} {objs' : α → List Obj}
    (hw : ∀ w a gs om, RelM B w S objs gs om → RelF n s a w S (Inner B w om) gs → fl.n ≤ objs.length → ∃ x, p x ∧ ∃ gs2 om2, RelM B w S (objs' x) gs2 om2 ∧ RelF n (s' x) a w S (Inner B w om2) gs2 ∧ ExtW fl B w gs om w gs2 om2)
    (h : ∀ x, p x → W P g B S n fl c (s' x) (objs' x) Q) : W P g B S n fl c s objs Q := fun a w gs om h1 h2 h3 h4 h5 => by
 obtain ⟨x, hp, gs2, om2, m, f, e⟩ := hw w a gs om h3 h4 h5
 have hl : fl.n ≤ gs.length := by rw [h3.len]; exact h5
 exact wp_mono (h x hp a w gs2 om2 h1 h2 m f (by rw [← m.len]; exact e.len hl)) fun e' a w' h => h.trans e hl

theorem plain_F {N : Nat → Prop} : ∀ {ys : List Value} {vs F}, RelL w S N (flat (ys.map D.v)) vs F → F = []
 | [], _, _, h => by cases h; rfl
 | y :: ys, vs, F, h => by
  have h' : RelL w S N (D.v y :: flat (ys.map D.v)) vs F := h
  cases h' with
  | cons a t => cases a; rw [plain_F t]; rfl

def isRowE : NE → Bool
 | .row .. => true
 | _ => false

theorem nest_of_rows {N : Nat → Prop} : ∀ {xs : List D} {vs F}, RelL w S N (flat xs) vs F → (∀ x ∈ xs, ∃ ys : List Value, x = .row .own 1 (ys.map .v)) → ∃ L : List NE, L.length = xs.length ∧ L.all isRowE = true ∧ NestL w L vs F
 | [], vs, F, h, _ => by cases h; exact ⟨[], rfl, rfl, .nil⟩
 | x :: xs, vs, F, h, hx => by
  obtain ⟨ys, rfl⟩ := hx x (by simp)
  have h' : RelL w S N (D.row .own 1 (ys.map D.v) :: flat xs) vs F := h
  cases h' with
  | @cons _ v F1 _ vs' G a t =>
   obtain ⟨L, h1, h2, h3⟩ := nest_of_rows t (fun y hy => hx y (by simp [hy]))
   generalize hz : ys.map D.v = zs at a
   cases a with
   | nil => exact ⟨.row 0 0 false :: L, by simp [h1], by simp [isRowE, h2], .zero h3⟩
   | empty hm => exact absurd rfl hm
   | old hm => exact absurd rfl hm
   | @own _ _ b c cur T us F9 hb hc hn hm hk hvs h9 =>
    subst hz
    obtain rfl : F9 = [] := plain_F h9
    exact ⟨.row _ _ false :: L, by simp [h1], by simp [isRowE, h2], .row hb (by rw [hc, Nat.mul_one]) hn hm (by simp) h3⟩

theorem W_nest (r : Nat) {xs : List D} (hr : objs[r]? = some (.row 1 xs)) (hx : ∀ x ∈ xs, ∃ ys : List Value, x = .row .own 1 (ys.map .v)) {c : Code}
    (h : ∀ L : List NE, L.length = xs.length → L.all isRowE = true → W P g B S n fl c s (objs.set r (.nest L)) Q) : W P g B S n fl c s objs Q :=
 W_weakE (p := fun L : List NE => L.length = xs.length ∧ L.all isRowE = true) (s' := fun _ => s) (objs' := fun L => objs.set r (.nest L)) (fun w a gs om hM hF hl => by
   cases hM.obj r _ hr with
   | row0 hg hk hb =>
     refine ⟨[], ⟨rfl, rfl⟩, gs, om, ⟨by simp [hM.len], fun r1 o1 h1 => ?_, hM.hS, hM.hB⟩, hF, (Ext.refl ..).take⟩
     rcases get_set h1 with ⟨rfl, rfl⟩ | ⟨_, h1⟩
     · exact .nest0 hg hk hb
     · exact hM.obj _ _ h1
   | row hg hgk hb hB ho hw hc hn hk hvs hl hF' hFo =>
     obtain ⟨L, h1, h2, h3⟩ := nest_of_rows hl hx
     refine ⟨L, ⟨h1, h2⟩, gs, om, ⟨by simp [hM.len], fun r1 o1 h1' => ?_, hM.hS, hM.hB⟩, hF, (Ext.refl ..).take⟩
     rcases get_set h1' with ⟨rfl, rfl⟩ | ⟨_, h1'⟩
     · exact .nest hg hgk hb hB ho hw hc (by rw [h1]; simpa using hn) (by rw [hvs, h1, Nat.mul_one]) h3 hF' hFo
     · exact hM.obj _ _ h1') fun L hL => h L hL.1 hL.2

def NestAt (w : World) (len c : Nat) (full : Bool) (v : Value) (Fx : List Nat) : Prop :=
 (v = .slice none 0 0 ∧ len = 0 ∧ c = 0 ∧ Fx = []) ∨
 ∃ b cur T, v = .slice (some ⟨b, 0, none⟩) len c ∧ Fx = [b] ∧ w.heap[b]? = some (.cells cur T (0, 0)) ∧ cur.size = c ∧ len ≤ c ∧ c ≤ maxLen ∧ (full = true → ∃ zs : List Int, cur.toList = zs.map (Value.int .u8))

theorem nest_split : ∀ {L : List NE} {vs F} {i len c full}, NestL w L vs F → L[i]? = some (.row len c full) →
    ∃ v Fx F1 F2, vs[i]? = some v ∧ F = F1 ++ (Fx ++ F2) ∧ NestL w (L.set i (.raw v)) vs (F1 ++ F2) ∧ NestAt w len c full v Fx
 | _, _, _, _, _, _, _, .nil, h => by simp at h
 | _, _, _, 0, _, _, _, .raw t, h => by simp at h
 | _, _, _, 0, _, _, _, .zero t, h => by
  simp at h; obtain ⟨rfl, rfl, rfl⟩ := h
  exact ⟨_, [], [], _, rfl, rfl, .raw t, .inl ⟨rfl, rfl, rfl, rfl⟩⟩
 | _, _, _, 0, _, _, _, .row hb hc hl hm hf t, h => by
  simp at h; obtain ⟨rfl, rfl, rfl⟩ := h
  exact ⟨_, [_], [], _, rfl, rfl, .raw t, .inr ⟨_, _, _, rfl, rfl, hb, hc, hl, hm, hf⟩⟩
 | _, _, _, i + 1, _, _, _, .raw t, h => by
  obtain ⟨v, Fx, F1, F2, h1, h2, h3, h4⟩ := nest_split t (by simpa using h)
  exact ⟨v, Fx, F1, F2, by simpa using h1, h2, .raw h3, h4⟩
 | _, _, _, i + 1, _, _, _, .zero t, h => by
  obtain ⟨v, Fx, F1, F2, h1, h2, h3, h4⟩ := nest_split t (by simpa using h)
  exact ⟨v, Fx, F1, F2, by simpa using h1, h2, .zero h3, h4⟩
 | _, _, _, i + 1, _, _, _, .row (b := b) hb hc hl hm hf t, h => by
  obtain ⟨v, Fx, F1, F2, h1, h2, h3, h4⟩ := nest_split t (by simpa using h)
  exact ⟨v, Fx, b :: F1, F2, by simpa using h1, by rw [h2]; rfl, .row hb hc hl hm hf h3, h4⟩

theorem nest_join : ∀ {L : List NE} {vs F} {i len c full v Fx}, NestL w L vs F → L[i]? = some (.raw v) → NestAt w len c full v Fx →
    ∃ F1 F2, F = F1 ++ F2 ∧ NestL w (L.set i (.row len c full)) vs (F1 ++ (Fx ++ F2))
 | _, _, _, _, _, _, _, _, _, .nil, h, _ => by simp at h
 | _, _, _, 0, _, _, _, _, _, .raw t, h, ha => by
  simp at h; subst h
  rcases ha with ⟨rfl, rfl, rfl, rfl⟩ | ⟨b, cur, T, rfl, rfl, hb, hc, hl, hm, hf⟩
  · exact ⟨[], _, rfl, .zero t⟩
  · exact ⟨[], _, rfl, .row hb hc hl hm hf t⟩
 | _, _, _, 0, _, _, _, _, _, .zero t, h, _ => by simp at h
 | _, _, _, 0, _, _, _, _, _, .row hb hc hl hm hf t, h, _ => by simp at h
 | _, _, _, i + 1, _, _, _, _, _, .raw t, h, ha => by
  obtain ⟨F1, F2, h2, h3⟩ := nest_join t (by simpa using h) ha
  exact ⟨F1, F2, h2, .raw h3⟩
 | _, _, _, i + 1, _, _, _, _, _, .zero t, h, ha => by
  obtain ⟨F1, F2, h2, h3⟩ := nest_join t (by simpa using h) ha
  exact ⟨F1, F2, h2, .zero h3⟩
 | _, _, _, i + 1, _, _, _, _, _, .row (b := b) hb hc hl hm hf t, h, ha => by
  obtain ⟨F1, F2, h2, h3⟩ := nest_join t (by simpa using h) ha
  exact ⟨b :: F1, F2, by rw [h2]; rfl, .row hb hc hl hm hf h3⟩

theorem W_nopen {sl : List (Nat × AV)} (r i : Nat) {L : List NE} {len cap : Nat} {full : Bool} (hkeep : fl.keep = false) (hr : objs[r]? = some (.nest L)) (hx : L[i]? = some (.row len cap full)) (hs : slotsFix sl = true) (hf : objsFix objs = true) {c : Code}
    (h : ∀ zs : List Int, (full = true → zs.length = cap) → (full = false → zs = []) → len ≤ cap → cap ≤ maxLen → W P g B S n fl c (slots sl) (objs.set r (.nhole i objs.length len L) ++ [.grow cap zs]) Q) : W P g B S n fl c (slots sl) objs Q :=
 W_weakE (p := fun zs : List Int => (full = true → zs.length = cap) ∧ (full = false → zs = []) ∧ len ≤ cap ∧ cap ≤ maxLen) (s' := fun _ => slots sl) (objs' := fun zs => objs.set r (.nhole i objs.length len L) ++ [.grow cap zs]) (fun w a gs om hM hF hlen0 => by
   have hi : i < L.length := (List.getElem?_eq_some_iff.1 hx).1
   have hrl : r < objs.length := (List.getElem?_eq_some_iff.1 hr).1
   cases hM.obj r _ hr with
   | nest0 => simp at hx
   | @nest T _ g' b cur vs F hg hgk hb hB ho hw hc hn hvs hl hFn hFo =>
     obtain ⟨v, Fx, F1, F2, h1, e2, h3, h4⟩ := nest_split hl hx
     subst e2
     obtain ⟨om', gn, zs, hz, hmk, hrow, hhdr⟩ : ∃ (om' : Nat → Option (Nat × Bool)) (gn : G1) (zs : List Int), ((full = true → zs.length = cap) ∧ (full = false → zs = []) ∧ len ≤ cap ∧ cap ≤ maxLen) ∧ (∀ x, om' x = om x ∨ (x ∈ Fx ∧ om x = some (r, false))) ∧
         RelO B w S (gs ++ [gn]) om' objs.length (.grow cap zs) ∧ (∀ N, RelV w S N (gs ++ [gn]) (.hdr objs.length 0 len) v) := by
       rcases h4 with ⟨rfl, rfl, rfl, rfl⟩ | ⟨b', cur', T', rfl, rfl, hb', hc', hl', hm', hf'⟩
       · exact ⟨om, ⟨none, 1, 0⟩, [], ⟨fun _ => rfl, fun _ => rfl, Nat.le_refl _, Nat.zero_le _⟩, fun x => .inl rfl, .grow0 (gs_new _ _ hM.len) rfl rfl rfl, fun N => .hdr0 (gs_new _ _ hM.len) rfl⟩
       · have hin := hFo b' (by simp)
         have hz : ∃ zs : List Int, (full = true → zs.length = cap) ∧ (full = false → zs = []) ∧ zs.length ≤ cap ∧ cur'.toList.take zs.length = zs.map (Value.int .u8) := by
           cases full with
           | false => exact ⟨[], by simp, fun _ => rfl, by simp, by simp⟩
           | true =>
             obtain ⟨zs, hzs⟩ := hf' rfl
             have hzl : zs.length = cap := by have := congrArg List.length hzs; simp at this; omega
             exact ⟨zs, fun _ => hzl, by simp, by omega, by rw [← hzs, List.take_of_length_le (by simp; omega)]⟩
         obtain ⟨zs, z1, z2, z3, z4⟩ := hz
         refine ⟨mark om [b'] (objs.length, true), ⟨some b', 1, cap⟩, zs, ⟨z1, z2, hl', hm'⟩, fun x => ?_, ?_, fun N => ?_⟩
         · by_cases hx1 : x ∈ [b']
           · simp at hx1; subst hx1; exact .inr ⟨by simp, hin.2.2⟩
           · exact .inl (mark_out hx1)
         · exact .grow (gs_new _ _ hM.len) rfl rfl hin.1 (mark_in (by simp)) hb' hc' rfl z3 z4
         · exact .hdr (gs_new _ _ hM.len) rfl (by simp) (.inl (by simp)) hl' hm'
     have hpre : gs <+: gs ++ [gn] := List.prefix_append _ _
     have hoth : ∀ (r1 : Nat), r1 ≠ r → ∀ b c, om b = some (r1, c) → om' b = some (r1, c) := fun r1 hne b c hb => by
       rcases hmk b with e | ⟨_, e⟩
       · rw [e]; exact hb
       · rw [hb] at e; simp at e; exact absurd e.1 hne
     have hom' : ∀ x, x ∉ Fx → om' x = om x := fun x hx => (hmk x).resolve_right (fun h => hx h.1)
     have hdis : ∀ x ∈ F1 ++ F2, x ∉ Fx := by
       intro x hx hx2
       simp only [List.nodup_append, List.mem_append] at hFn
       simp at hx
       rcases hx with hx | hx
       · exact hFn.2.2 x hx x (.inl hx2) rfl
       · exact hFn.2.1.2.2 x hx2 x hx rfl
     have hbx : b ∉ Fx := fun hx => by have := (hFo b (by simp [hx])).2.2; rw [ho] at this; simp at this
     refine ⟨zs, hz, gs ++ [gn], om', ⟨by simp [hM.len], fun r1 o1 h1' => ?_, hM.hS, hM.hB⟩, ⟨hF.size, hF.defers, fun j => RelV.refix (fun _ _ => rfl) hpre (hF.rel j) (slotsFix_get hs j)⟩, ⟨(List.take_prefix _ _).trans hpre, .refl _ _, fun hk => by rw [hkeep] at hk; cases hk⟩⟩
     rcases get_append_one _ _ _ _ h1' with h1' | ⟨rfl, rfl⟩
     · rcases get_set h1' with ⟨rfl, rfl⟩ | ⟨hne, h1'⟩
       · refine .nhole (v := v) ?_ hi (by omega) (hhdr _)
         refine .nest (F := F1 ++ F2) (gs_get hpre hg) hgk hb hB (by rw [hom' _ hbx]; exact ho) hw hc (by simpa using hn) (by rw [List.length_set]; exact hvs) h3 ?_ ?_
         · have := hFn
           simp only [List.nodup_append, List.mem_append] at this ⊢
           exact ⟨this.1, this.2.1.2.1, fun x hx y hy => this.2.2 x hx y (.inr hy)⟩
         · intro x hx
           have hm : x ∈ F1 ++ (Fx ++ F2) := by simp at hx ⊢; rcases hx with hx | hx <;> simp [hx]
           exact ⟨(hFo x hm).1, (hFo x hm).2.1, by rw [hom' _ (hdis x hx)]; exact (hFo x hm).2.2⟩
       · exact RelO.refix hpre (hM.obj r1 o1 h1') (objsFix_get hf h1') (hoth r1 hne)
     · have hlen' : (objs.set r (.nhole i objs.length len L)).length = objs.length := by simp
       rw [hlen']
       exact hrow) fun zs hz => h zs hz.1 hz.2.1 hz.2.2.1 hz.2.2.2

theorem Weak.nclose (r : Nat) {i r' len c : Nat} {L : List NE} {zs : List Int} (full : Bool) (hr : objs[r]? = some (.nhole i r' len L)) (hr' : objs[r']? = some (.grow c zs)) (hfull : full = true → zs.length = c) :
    Weak B S n fl s objs s ((objs.set r (.nest (L.set i (.row len c full)))).set r' .dead) := fun w a gs om hM hF hlen => by
 cases hM.obj r _ hr with
 | @nhole _ _ _ _ v ho hi hne hv =>
  obtain ⟨Fx, hat, hFx⟩ : ∃ Fx, NestAt w len c full v Fx ∧ ∀ x ∈ Fx, Fx = [x] ∧ B ≤ x ∧ x < w.heap.size ∧ om x = some (r', true) := by
   have hg0 := hM.obj r' _ hr'
   cases hv with
   | @hdr _ _ _ g' b' o c' hg hb hcap hoff hlc hm =>
    cases hg0 with
    | grow0 hg2 _ hb2 => rw [hg] at hg2; simp at hg2; subst hg2; rw [hb] at hb2; cases hb2
    | @grow _ _ _ g2 b2 cur hg2 hgk hb2 hB ho2 hw2 hc2 hgc hn2 hvs2 =>
     obtain rfl : g' = g2 := by simpa using hg.symm.trans hg2
     obtain rfl : b' = b2 := by simpa using hb.symm.trans hb2
     have hcc : c' = c := by rw [hgk, Nat.mul_one, Nat.zero_add, hgc] at hcap; exact hcap
     have ho0 : o = 0 := by rcases hoff with h | ⟨_, h⟩ <;> simp_all
     subst ho0; subst hcc
     refine ⟨[b'], .inr ⟨b', cur, _, rfl, rfl, hw2, by rw [hc2, hgc], hlc, hm, fun hfl => ⟨zs, ?_⟩⟩, fun x hx => ?_⟩
     · rw [← hvs2, hfull hfl]
       rw [List.take_of_length_le (by simp; omega)]
     · simp at hx; subst hx; exact ⟨rfl, hB, (Array.getElem?_eq_some_iff.1 hw2).1, ho2⟩
   | hdr0 hg hb =>
    have := (hg0.growK hg).2.2 hb
    subst this
    exact ⟨[], .inl ⟨rfl, rfl, rfl, rfl⟩, by simp⟩
  have e : Ext B w gs om w gs (mark om Fx (r, false)) := ⟨List.prefix_rfl, .refl _ _, fun x ⟨h1, h2, h3⟩ => ⟨⟨h1, h2, fun r1 => by
    by_cases hx : x ∈ Fx
    · rw [mark_in hx]; simp
    · rw [mark_out hx]; exact h3 r1⟩, rfl⟩⟩
  have hrl : r < objs.length := (List.getElem?_eq_some_iff.1 hr).1
  generalize hq : L.set i (.raw v) = L1 at ho
  cases ho with
  | nest0 => exfalso; have := congrArg List.length hq; simp at this; subst this; simp at hi
  | @nest T _ g' b cur vs F hg hgk hb hB ho hw hc hn hvs hl hFn hFo =>
   have hx1 : L1[i]? = some (.raw v) := by rw [← hq]; simp [hi]
   obtain ⟨F1, F2, rfl, h3⟩ := nest_join hl hx1 hat
   have hlx : L1.length = L.length := by rw [← hq]; simp
   have hset : L1.set i (.row len c full) = L.set i (.row len c full) := by rw [← hq]; simp
   rw [hset] at h3
   refine ⟨gs, mark om Fx (r, false), hM.step e (by simp [hM.len]) fun r1 o1 h1' => ?_, ⟨hF.size, hF.defers, fun j => hM.relV e (hF.rel j)⟩, e.ofFull⟩
   rcases get_set h1' with ⟨rfl, rfl⟩ | ⟨hne1, h1'⟩
   · exact .inr .dead
   rcases get_set h1' with ⟨rfl, rfl⟩ | ⟨hne2, h1'⟩
   · right
     have hgd : ∀ x ∈ Fx, x ∉ F1 ++ F2 := fun x hx hx2 => by
      have a1 := (hFx x hx).2.2.2
      have a2 := (hFo x hx2).2.2
      rw [a1] at a2; simp at a2
     have hbG : b ∉ Fx := fun hb => by
      have a1 := (hFx b hb).2.2.2
      rw [ho] at a1; simp at a1; exact hne a1.symm
     refine .nest (F := F1 ++ (Fx ++ F2)) hg hgk hb hB (by rw [mark_out hbG]; exact ho) hw hc (by simpa [hlx] using hn) (by rw [List.length_set, ← hlx]; exact hvs) h3 ?_ ?_
     · have := hFn
       have hGn : Fx.Nodup := by
        cases Fx with
        | nil => simp
        | cons x t => rw [(hFx x (by simp)).1]; simp
       simp only [List.nodup_append, List.mem_append] at this ⊢
       refine ⟨this.1, ⟨hGn, this.2.1, fun x hx y hy e => hgd x hx (by subst e; simp [hy])⟩, fun x hx y hy e => ?_⟩
       subst e
       rcases hy with hy | hy
       · exact hgd x hy (by simp [hx])
       · exact this.2.2 x hx x hy rfl
     · intro x hx
       by_cases hxG : x ∈ Fx
       · exact ⟨(hFx x hxG).2.1, (hFx x hxG).2.2.1, mark_in hxG⟩
       · have hm : x ∈ F1 ++ F2 := by simp at hx ⊢; rcases hx with hx | hx | hx <;> simp_all
         exact ⟨(hFo x hm).1, (hFo x hm).2.1, by rw [mark_out hxG]; exact (hFo x hm).2.2⟩
   · left
     refine ⟨h1', fun b c hbc _ => ⟨?_, rfl⟩⟩
     by_cases hx : b ∈ Fx
     · have := (hFx b hx).2.2.2; rw [hbc] at this; simp at this; exact absurd this.1 hne1
     · rw [mark_out hx]; exact hbc
end
end Go.Awp

/- Objects behind others that are told by a name alone; an object that falls away. Lemmas alone. -/
namespace Go.Awp
open Go.RowKit Go.Lib
@[simp] theorem getP0 {α : Type} (os l : List α) : (os ++ l)[os.length]? = l[0]? := by rw [List.getElem?_append_right (Nat.le_refl _), Nat.sub_self]
@[simp] theorem getP {α : Type} (os l : List α) (k : Nat) : (os ++ l)[os.length + k]? = l[k]? := by rw [List.getElem?_append_right (Nat.le_add_right _ _), Nat.add_sub_cancel_left]
@[simp] theorem setP0 {α : Type} (os l : List α) (x : α) : (os ++ l).set os.length x = os ++ l.set 0 x := by rw [List.set_append_right _ _ (Nat.le_refl _), Nat.sub_self]
@[simp] theorem setP {α : Type} (os l : List α) (k : Nat) (x : α) : (os ++ l).set (os.length + k) x = os ++ l.set k x := by rw [List.set_append_right _ _ (Nat.le_add_right _ _), Nat.add_sub_cancel_left]
theorem fix_append : ∀ {a b : List Obj}, objsFix (a ++ b) = (objsFix a && objsFix b)
 | [], b => by simp
 | x :: a, b => by simp [fix_append (a := a) (b := b), Bool.and_assoc]
theorem olt_append {m : Nat} : ∀ {a b : List Obj}, objsLt m (a ++ b) = (objsLt m a && objsLt m b)
 | [], b => by simp
 | x :: a, b => by simp [olt_append (a := a) (b := b), Bool.and_assoc]
mutual
theorem lt_mono {m m' : Nat} (h : m ≤ m') : ∀ {a : AV}, a.lt m = true → a.lt m' = true
 | .d _, _ => rfl
 | .hdr r _ _, q => by simp only [AV.lt, decide_eq_true_eq] at q ⊢; omega
 | .cut .., _ => rfl
 | .ptr r _ _, q => by simp only [AV.lt, decide_eq_true_eq] at q ⊢; omega
 | .rp .., _ => rfl
 | .agg cs, q => by simp only [AV.lt] at q ⊢; exact lts_mono h q
 | .tup cs, q => by simp only [AV.lt] at q ⊢; exact lts_mono h q
 | .fn _ a b, q => by simp only [AV.lt, Bool.and_eq_true] at q ⊢; exact ⟨lts_mono h q.1, lts_mono h q.2⟩
 | .ifc _ x, q => by simp only [AV.lt] at q ⊢; exact lt_mono h q
 | .dead, _ => rfl
theorem lts_mono {m m' : Nat} (h : m ≤ m') : ∀ {a : List AV}, AV.lts m a = true → AV.lts m' a = true
 | [], _ => rfl
 | a :: as, q => by simp only [AV.lts, Bool.and_eq_true] at q ⊢; exact ⟨lt_mono h q.1, lts_mono h q.2⟩
end
theorem objLt_mono {m m' : Nat} (h : m ≤ m') : ∀ {o : Obj}, o.lt m = true → o.lt m' = true
 | .var _ cs, q => by simp only [Obj.lt] at q ⊢; exact lts_mono h q
 | .hole _ r' _ _, q => by simp only [Obj.lt, decide_eq_true_eq] at q ⊢; omega
 | .nhole _ r' _ _, q => by simp only [Obj.lt, decide_eq_true_eq] at q ⊢; omega
 | .lp _ _ L _ _, q => by
  simp only [Obj.lt, List.all_eq_true] at q ⊢
  exact fun p hp => lt_mono h (q p hp)
 | .row .., _ => rfl
 | .it .., _ => rfl
 | .blk .., _ => rfl
 | .nest .., _ => rfl
 | .grow .., _ => rfl
 | .dead, _ => rfl
theorem olt_mono {m m' : Nat} (h : m ≤ m') : ∀ {l : List Obj}, objsLt m l = true → objsLt m' l = true
 | [], _ => rfl
 | a :: as, q => by simp only [objsLt, Bool.and_eq_true] at q ⊢; exact ⟨objLt_mono h q.1, olt_mono h q.2⟩
section
variable {P : Program} {g : Gl} {B : Nat} {S : Nat → Prop} {n : Nat} {fl : Fl} {s : Nat → AV} {objs : List Obj} {Q : Qt}
theorem Weak.objDead (r : Nat) : Weak B S n fl s objs s (objs.set r .dead) := fun w a gs om hM hF hlen => ⟨gs, om, hM.kill r, hF, (Ext.refl ..).ofFull⟩
theorem rounds_weak {s2 : Nat → AV} {objs2 : List Obj} {I : Nat → (Nat → AV) → List Obj → Prop} {m} (hw : Weak B S n fl s objs s2 objs2) (h : Rounds B S n fl I m (fun _ _ _ => False) .normal s2 objs2) : Rounds B S n fl I m (fun _ _ _ => False) .normal s objs := by
 obtain ⟨m', hm', s3, o3, hw2, hI⟩ := h
 exact ⟨m', hm', s3, o3, hw.trans hw2 (fun w gs om q1 q2 => by rw [← q1.len]; exact q2), hI⟩
theorem takeP {α : Type} (os tl ds : List α) (x : α) : (os ++ x :: (tl ++ ds)).take (os.length + 1 + tl.length) = os ++ x :: tl := by
 rw [show os ++ x :: (tl ++ ds) = (os ++ x :: tl) ++ ds by simp, List.take_left' (by simp; omega)]
theorem endAt_tail {f : Nat} {fn : Func} {as av} {x : Obj} (os tl ds : List Obj) (h1 : Got (ressA P s objs fn.results.toList) (some as)) (h2 : tupA as = av) (ho : objs = os ++ x :: (tl ++ ds)) (hf : f ≤ os.length + 1 + tl.length) (hav : av.lt (os.length + 1 + tl.length) = true)
    (hx : x.lt (os.length + 1 + tl.length) = true) (hlo : objsLt (os.length + 1 + tl.length) os = true) (hlt : objsLt (os.length + 1 + tl.length) tl = true) : EndAt P fn f av (os ++ x :: tl) .ret s objs := by
 subst ho
 exact endAt_drop (os.length + 1 + tl.length) h1 h2 (takeP ..).symm hf hav (by rw [takeP, olt_append]; simp [objsLt, hx, hlo, hlt])
theorem endAt_tailN {f : Nat} {fn : Func} {as av} {x y z : Obj} (os tl ds : List Obj) (h1 : Got (ressA P s objs fn.results.toList) (some as)) (h2 : tupA as = av) (ho : objs = os ++ x :: y :: z :: (tl ++ ds)) (hf : f ≤ os.length + 3 + tl.length) (hav : av.lt (os.length + 3 + tl.length) = true)
    (hx : x.lt (os.length + 3 + tl.length) = true) (hy : y.lt (os.length + 3 + tl.length) = true) (hz : z.lt (os.length + 3 + tl.length) = true) (hlo : objsLt (os.length + 3 + tl.length) os = true) (hlt : objsLt (os.length + 3 + tl.length) tl = true) : EndAt P fn f av (os ++ x :: y :: z :: tl) .normal s objs := by
 subst ho
 have e : (os ++ x :: y :: z :: (tl ++ ds)).take (os.length + 3 + tl.length) = os ++ x :: y :: z :: tl := by
  rw [show os ++ x :: y :: z :: (tl ++ ds) = (os ++ x :: y :: z :: tl) ++ ds by simp, List.take_left' (by simp; omega)]
 exact endAt_dropN (os.length + 3 + tl.length) h1 h2 e.symm hf hav (by rw [e, olt_append]; simp [objsLt, hx, hy, hz, hlo, hlt])
end
end Go.Awp

/- Ranges over functions: a region with several calls of yield. Lemmas alone. -/
namespace Go.Awp
open Go.RowKit Go.Lib

def WRI (P : Program) (g : Gl) (B : Nat) (S : Nat → Prop) (n : Nat) (fl : Fl) (ro : Option Nat) (ds : List Deferred) (ops : Array Oper) (l : List Nat) (s : Nat → AV) (c : Nat → Bool) (objs : List Obj) (Q : Qd) : Prop :=
 ∀ a w gs om, g.G w → g.N ≤ B → RelM B w S objs gs om → RelF n (told s c) a w S (Inner B w om) gs → fl.n ≤ objs.length →
  ∀ K : Exit → Act → World → Prop, (∀ e a0 ds' w', Post B S n fl w gs om (Q ds') e a0 w' → K e (up ds' a0) w') → wpOpsIn (FI ro) 0 P ops K l (up ds a) w

section
variable {P : Program} {g : Gl} {B : Nat} {S : Nat → Prop} {n : Nat} {fl : Fl} {ro : Option Nat} {ds : List Deferred} {w : World} {gs : List G1} {om : Nat → Option (Nat × Bool)} {s : Nat → AV} {c : Nat → Bool} {objs : List Obj} {Q : Qd} {ops : Array Oper}

end
end Go.Awp

/- A row of which only the front is told any more. Lemmas alone. -/
namespace Go.Awp
open Go.RowKit Go.Lib
section
variable {P : Program} {g : Gl} {B : Nat} {S : Nat → Prop} {n : Nat} {fl : Fl} {s : Nat → AV} {objs : List Obj} {Q : Qt}
theorem Weak.cutRow (r m : Nat) {k : Nat} {xs ys : List D} (hr : objs[r]? = some (.row k xs)) (hy : ys = xs.take m) : Weak B S n fl s objs s (objs.set r (.row k ys)) := fun w a gs om hM hF hlen => by
 have hO := hM.obj r _ hr
 refine ⟨gs, om, ⟨by simp [hM.len], fun r1 o1 h1 => ?_, hM.hS, hM.hB⟩, hF, (Ext.refl ..).ofFull⟩
 rcases get_set h1 with ⟨rfl, rfl⟩ | ⟨_, h1⟩
 · subst hy
   cases hO with
   | row0 hg hk hb => simp only [List.take_nil]; exact .row0 hg hk hb
   | @row T _ _ gg b cur vs F hg hgk hb hB ho hw hc hn hk hvs hl hF' hFo =>
    have e : flat xs = flat (xs.take m) ++ flat (xs.drop m) := by simp only [flat]; rw [← List.flatMap_append, List.take_append_drop]
    have hfl : (flat (xs.take m)).length = (xs.take m).length * k := flat_length (fun x hx => hk x (List.mem_of_mem_take hx))
    rw [e] at hl
    obtain ⟨F1, F2, hFF, h1, _⟩ := hl.split
    have hle : (xs.take m).length * k ≤ xs.length * k := Nat.mul_le_mul_right _ (by simp; omega)
    subst hFF
    refine .row hg hgk hb hB ho hw hc (Nat.le_trans hle hn) (fun x hx => hk x (List.mem_of_mem_take hx)) (vs := vs.take (flat (xs.take m)).length) (F := F1) ?_ h1 (List.nodup_append.1 hF').1 (fun b hb => hFo b (by simp [hb]))
    rw [hvs, hfl, List.take_take, Nat.min_eq_left hle]
 · exact hM.obj _ _ h1
end
end Go.Awp
