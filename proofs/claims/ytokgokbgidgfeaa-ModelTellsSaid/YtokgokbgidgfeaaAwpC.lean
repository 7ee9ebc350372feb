/- Lemmas of a walk over abstract states: data, objects, operations, regions, loops, contracts; no condition but those that each lemma names. -/
import Derived.Test.YtokgokbgidgfeaaAwpB
import Derived.Orders
import Derived.Laws.Cover3
import Derived.ChangeShapes
import Derived.OpenShut
import Derived.Carry
import Derived.DataReads
import Derived.SizedLaws
set_option linter.all false
/- The walk over abstract states: single steps, and regions that draw their order. Lemmas alone. -/
namespace Go.Awp
open Go.RowKit Go.Lib

theorem opA_congr {P : Program} {ρ ρ' : Operand → AV} {objs : List Obj} {o : Op} (h : ∀ x ∈ o.operands, ρ x = ρ' x) : opA P ρ objs o = opA P ρ' objs o := by
 have pairs : ∀ ps : Array (Nat × Operand), (∀ x ∈ ps.map (·.2), ρ x = ρ' x) → ps.toList.map (fun p => (p.1, ρ p.2)) = ps.toList.map (fun p => (p.1, ρ' p.2)) := fun ps hp =>
  List.map_congr_left fun p hm => by
   have : ρ p.2 = ρ' p.2 := hp _ (by simp; exact ⟨p.1, by simpa using hm⟩)
   simp [this]
 have lists : ∀ xs : Array Operand, (∀ x ∈ xs, ρ x = ρ' x) → xs.toList.map ρ = xs.toList.map ρ' := fun xs hx => List.map_congr_left fun x hm => hx x (by simpa using hm)
 have opts : ∀ x : Option Operand, (∀ y ∈ x.toList, ρ y = ρ' y) → optA ρ x = optA ρ' x := fun x hx => by
  cases x with
  | none => rfl
  | some y => simp [optA, hx y (by simp)]
 cases o with
 | build t ps => simp only [opA, pairs ps (fun x hx => h x (by simpa [Op.operands] using hx))]
 | buildSlice t n ps => simp only [opA, pairs ps (fun x hx => h x (by simpa [Op.operands] using hx))]
 | makeFunc fn first caps => simp only [opA, lists first (fun x hx => h x (by simp [Op.operands, hx])), lists caps (fun x hx => h x (by simp [Op.operands, hx]))]
 | slice t x lo hi mx =>
  have h0 : ρ x = ρ' x := h x (by simp [Op.operands])
  have h1 : optA ρ lo = optA ρ' lo := opts lo (fun y hy => h y (by simp [Op.operands] at hy ⊢; simp [hy]))
  have h2 : optA ρ hi = optA ρ' hi := opts hi (fun y hy => h y (by simp [Op.operands] at hy ⊢; simp [hy]))
  have h3 : optA ρ mx = optA ρ' mx := opts mx (fun y hy => h y (by simp [Op.operands] at hy ⊢; simp [hy]))
  simp only [opA, h0, h1, h2, h3]
 | call c =>
  obtain ⟨callee, args, ts⟩ := c
  cases callee with
  | builtin b => simp only [opA, lists args (fun x hx => h x (by simp [Op.operands, Call.operands, hx]))]
  | _ => rfl
 | _ => first | rfl | (simp [Op.operands] at h; simp [opA, h])

theorem calleeA_congr {ρ ρ' : Operand → AV} {c : Call} (h : ∀ x ∈ c.operands, ρ x = ρ' x) : calleeA ρ c = calleeA ρ' c := by
 have hargs : c.args.toList.map ρ = c.args.toList.map ρ' := List.map_congr_left fun x hx => h x (by simp [Call.operands]; simp at hx; exact .inr hx)
 unfold calleeA
 rw [hargs]
 cases hc : c.callee with
 | value f => have hf : ρ f = ρ' f := h f (by simp [Call.operands, hc]); simp only [hf]
 | _ => rfl

inductive Fx (P : Program) (g : Gl) (ρ : Operand → AV) (objs : List Obj) (o : Oper) : AV → List Obj → Prop
 | op {av objs'} (h : opA P ρ objs o.op = some (av, objs')) : Fx P g ρ objs o av objs'
 | call {c f as spec ds q r av objs'} (hc : o.op = .call c) (h : calleeA ρ c = some (f, as)) (hct : Ct P g f spec)
     (he : expAs objs (kindsOf P c.argTypes.toList) as = some (ds, q)) (hr : spec ds = some r) (hno : r.noRo = true) (hi : impA objs r = some (av, objs')) : Fx P g ρ objs o av objs'

inductive St (P : Program) (g : Gl) (n : Nat) (ops : Array Oper) (hard : List Nat) (i : Nat) : (Nat → AV) → List Obj → (Nat → AV) → List Obj → Prop
 | run {s objs o av objs' s'} (ho : ops[i]? = some o) (hg : gA ops s o = some true) (h : Fx P g (evalA s) objs o av objs') (hp : putA n s o.dst av = some s') : St P g n ops hard i s objs s' objs'
 | skip {s objs o s'} (ho : ops[i]? = some o) (hg : gA ops s o = some false) (hp : putA n s o.dst (.tup []) = some s') : St P g n ops hard i s objs s' objs
 | inl {s objs o c f as av objs' s'} (ho : ops[i]? = some o) (hg : gA ops s o = some true) (hc : o.op = .call c) (h : calleeA (evalA s) c = some (f, as)) (hE : Enters P f)
     (hk : ∀ B S, CallsA P g B S ⟨objs.length, true⟩ f as objs (fun a o => a = av ∧ o = objs')) (hx : i ∈ hard ∨ ∃ l, objs' = objs ++ l) (hp : putA n s o.dst av = some s') : St P g n ops hard i s objs s' objs'
 | inlK {s objs o c f as av objs' s'} (ho : ops[i]? = some o) (hg : gA ops s o = some true) (hc : o.op = .call c) (h : calleeA (evalA s) c = some (f, as)) (hE : Enters P f) (hs : FixS s)
     (hk : ∀ B S, CallsA P g B S ⟨objs.length, false⟩ f as objs (fun a o => a = av ∧ o = objs')) (hx : i + 1000 ∈ hard) (hz : ops.size ≤ 1000) (hp : putA n s o.dst av = some s') : St P g n ops hard i s objs s' objs'

def KeepOk (fl : Fl) (ops : Array Oper) (hard : List Nat) : Prop := fl.keep = true → ∀ i, i + 1000 ∈ hard → i + 1000 < ops.size

inductive Tr (P : Program) (g : Gl) (n : Nat) (ops : Array Oper) (hard : List Nat) : List Nat → (Nat → AV) → List Obj → (Nat → AV) → List Obj → Prop
 | nil {s objs} : Tr P g n ops hard [] s objs s objs
 | cons {i l s objs s1 objs1 s2 objs2} (h : St P g n ops hard i s objs s1 objs1) (t : Tr P g n ops hard l s1 objs1 s2 objs2) : Tr P g n ops hard (i :: l) s objs s2 objs2

section
variable {P : Program} {g : Gl} {B : Nat} {S : Nat → Prop} {n : Nat} {fl : Fl} {w : World} {gs : List G1} {om : Nat → Option (Nat × Bool)} {s : Nat → AV} {objs : List Obj} {Q : Qt} {ops : Array Oper} {hard : List Nat}

theorem WR_st {i l s' objs'} (hko : KeepOk fl ops hard) (h : St P g n ops hard i s objs s' objs') (hk : WR P g B S n fl ops l s' objs' Q) : WR P g B S n fl ops (i :: l) s objs Q := by
 cases h with
 | run ho hg h hp =>
  cases h with
  | op h => exact WR_op ho hg h hp hk
  | call hc h hct he hr hno hi => exact WR_call ho hg hc h hct he hr hno hi hp hk
 | skip ho hg hp => exact WR_skip ho hg hp hk
 | inl ho hg hc h hE hk' hx hp => exact WR_inline ho hg hc h hE (fun vs w gs om h1 h2 h3 h4 h5 => (hk' B S vs w gs om h1 h2 h3 h4 h5).mono fun e w' ⟨v, av', o', gs', om', e1, ⟨e2, e3⟩, r⟩ => ⟨v, av', o', gs', om', e1, ⟨s', by rw [e2]; exact hp, fun _ => by rw [e3]; exact hk⟩, r⟩)
 | inlK ho hg hc h hE hs hk' hx hz hp => exact WR_inlK (by
     cases hkp : fl.keep with
     | false => rfl
     | true => have := hko hkp i hx; omega) ho hg hc h hE hs hk' hp hk

theorem WR_tr {l l2 s' objs'} (hko : KeepOk fl ops hard) (h : Tr P g n ops hard l s objs s' objs') (hk : WR P g B S n fl ops l2 s' objs' Q) : WR P g B S n fl ops (l ++ l2) s objs Q := by
 induction h with
 | nil => exact hk
 | cons h t ih => exact WR_st hko h (ih hk)

theorem Tr.split {l1 l2 s' objs'} (h : Tr P g n ops hard (l1 ++ l2) s objs s' objs') : ∃ s1 objs1, Tr P g n ops hard l1 s objs s1 objs1 ∧ Tr P g n ops hard l2 s1 objs1 s' objs' := by
 induction l1 generalizing s objs with
 | nil => exact ⟨s, objs, .nil, h⟩
 | cons i l1 ih => cases h with | cons h t => obtain ⟨s1, o1, t1, t2⟩ := ih t; exact ⟨s1, o1, .cons h t1, t2⟩

theorem Tr.append {l1 l2 s1 objs1 s' objs'} (h : Tr P g n ops hard l1 s objs s1 objs1) (h2 : Tr P g n ops hard l2 s1 objs1 s' objs') : Tr P g n ops hard (l1 ++ l2) s objs s' objs' := by
 induction h with
 | nil => exact h2
 | cons h t ih => exact .cons h (ih h2)

def isP : Op → Bool
 | .move _ | .assign _ | .pick .. | .nilCheck _ | .binOp .. | .unOp .. | .makeFunc .. | .fieldAddr .. | .field .. | .index .. | .extract .. | .build .. => true
 | .call { callee := .builtin .min, .. } => true
 | .call { callee := .builtin .max, .. } => true
 | _ => false

def isR : Op → Bool
 | .load .. | .slice .. | .indexAddr .. | .convert .. => true
 | .call { callee := .builtin .len, .. } => true
 | .call { callee := .builtin .cap, .. } => true
 | o => isP o

def isE : Op → Bool
 | .alloc _ | .box .. | .range .. | .makeSlice .. | .call { callee := .value _, .. } => true
 | .buildSlice _ _ ps => ps.toList.isEmpty
 | o => isR o

theorem opA_P {ρ : Operand → AV} {o : Op} {av objs'} (hp : isP o = true) (h : opA P ρ objs o = some (av, objs')) : objs' = objs ∧ ∀ o2, opA P ρ o2 o = some (av, o2) := by
 by_cases hcall : ∃ c, o = .call c
 · obtain ⟨⟨callee, args, ts⟩, rfl⟩ := hcall
   cases callee with
   | builtin b =>
    cases b <;> simp only [isP, Bool.false_eq_true] at hp <;> simp only [opA, builtinA] at h ⊢ <;> (split at h) <;> simp_all <;> (obtain ⟨a, h1, h2, h3⟩ := h; subst h2; exact ⟨h3.symm, h1⟩)
   | _ => simp [isP] at hp
 have hcall : ∀ c, o ≠ .call c := fun c e => hcall ⟨c, e⟩
 cases o <;> (try exact absurd rfl (hcall _)) <;> simp only [isP, Bool.false_eq_true] at hp <;> simp only [opA] at h ⊢
 case move => simp at h; simp [h]
 case assign => simp at h; simp [h]
 case pick => split at h <;> simp_all
 case nilCheck => split at h <;> simp_all
 case binOp => simp only [Option.map_eq_some_iff] at h ⊢; obtain ⟨a, h1, h2⟩ := h; simp only [Prod.mk.injEq] at h2; obtain ⟨rfl, rfl⟩ := h2; exact ⟨rfl, fun o2 => ⟨a, h1, rfl⟩⟩
 case unOp =>
  split at h
  · simp only [Option.map_eq_some_iff] at h ⊢; obtain ⟨a, h1, h2⟩ := h; simp only [Prod.mk.injEq] at h2; obtain ⟨rfl, rfl⟩ := h2; exact ⟨rfl, fun o2 => ⟨a, h1, rfl⟩⟩
  · cases h
 case makeFunc => simp at h; simp [h]
 case fieldAddr => simp only [Option.map_eq_some_iff] at h ⊢; obtain ⟨a, h1, h2⟩ := h; simp only [Prod.mk.injEq] at h2; obtain ⟨rfl, rfl⟩ := h2; exact ⟨rfl, fun o2 => ⟨a, h1, rfl⟩⟩
 case field => simp only [Option.map_eq_some_iff] at h ⊢; obtain ⟨a, h1, h2⟩ := h; simp only [Prod.mk.injEq] at h2; obtain ⟨rfl, rfl⟩ := h2; exact ⟨rfl, fun o2 => ⟨a, h1, rfl⟩⟩
 case index =>
  split at h
  · simp only [Option.map_eq_some_iff] at h ⊢; obtain ⟨a, h1, h2⟩ := h; simp only [Prod.mk.injEq] at h2; obtain ⟨rfl, rfl⟩ := h2; exact ⟨rfl, fun o2 => ⟨a, h1, rfl⟩⟩
  · cases h
 case build => simp only [Option.map_eq_some_iff] at h ⊢; obtain ⟨a, h1, h2⟩ := h; simp only [Prod.mk.injEq] at h2; obtain ⟨rfl, rfl⟩ := h2; exact ⟨rfl, fun o2 => ⟨a, h1, rfl⟩⟩
 case extract => simp only [Option.map_eq_some_iff] at h ⊢; obtain ⟨a, h1, h2⟩ := h; simp only [Prod.mk.injEq] at h2; obtain ⟨rfl, rfl⟩ := h2; exact ⟨rfl, fun o2 => ⟨a, h1, rfl⟩⟩

theorem get_more {α : Type} {l l' : List α} {r : Nat} {x : α} (h : l[r]? = some x) : (l ++ l')[r]? = some x := by
 rw [List.getElem?_append_left (List.getElem?_eq_some_iff.1 h).1]; exact h

theorem cellsAt_more {a : AV} {cs l} (h : cellsAt objs a = some cs) : cellsAt (objs ++ l) a = some cs := by
 unfold cellsAt at h ⊢
 split at h
 · split at h
   · rename_i hr; simp only [get_more hr]; exact h
   · rename_i hr; simp only [get_more hr]; exact h
   · rename_i hr; simp only [get_more hr]; exact h
   · rename_i hr; simp only [get_more hr]; exact h
   · rename_i hr; simp only [get_more hr]; exact h
   · cases h
 · exact h
 · cases h

theorem opA_R {ρ : Operand → AV} {o : Op} {av objs'} (hp : isR o = true) (h : opA P ρ objs o = some (av, objs')) : objs' = objs ∧ ∀ l, opA P ρ (objs ++ l) o = some (av, objs ++ l) := by
 have fromP : isP o = true → objs' = objs ∧ ∀ l, opA P ρ (objs ++ l) o = some (av, objs ++ l) := fun hp => ⟨(opA_P hp h).1, fun l => (opA_P hp h).2 _⟩
 cases o with
 | load t a =>
  simp only [opA, loadA] at h ⊢
  split at h
  · rename_i T cs hT hcs
    simp only [hT, fun l => cellsAt_more (l := l) hcs]
    split at h
    · split at h
      · simp at h; simp_all
      · cases h
    · split at h
      · simp at h; simp_all
      · cases h
  · cases h
 | slice t x lo hi mx =>
  simp only [opA] at h ⊢
  split at h
  · simp only [Option.map_eq_some_iff, Prod.mk.injEq] at h
    obtain ⟨a, h1, rfl, rfl⟩ := h
    refine ⟨rfl, fun l => ?_⟩
    simp only [Option.map_eq_some_iff, Prod.mk.injEq]
    refine ⟨a, ?_, rfl, trivial⟩
    unfold sliceA at h1 ⊢
    split at h1
    · exact h1
    · split at h1
      · split at h1
        · exact h1
        · split at h1
          · rename_i hr; simp only [get_more hr]; exact h1
          · rename_i hr; simp only [get_more hr]; exact h1
          · cases h1
        · cases h1
        · exact h1
        · cases h1
      · cases h1
    · cases h1
  · cases h
 | indexAddr t x i =>
  simp only [opA] at h ⊢
  split at h
  · simp only [Option.map_eq_some_iff, Prod.mk.injEq] at h
    obtain ⟨a, h1, rfl, rfl⟩ := h
    refine ⟨rfl, fun l => ?_⟩
    simp only [Option.map_eq_some_iff, Prod.mk.injEq]
    refine ⟨a, ?_, rfl, trivial⟩
    unfold indexAddrA at h1 ⊢
    split at h1
    · split at h1
      · split at h1
        · split at h1
          · rename_i hr; simp only [get_more hr]; exact h1
          · rename_i hr; simp only [get_more hr]; exact h1
          · rename_i hr; simp only [get_more hr]; exact h1
          · rename_i hr; simp only [get_more hr]; exact h1
          · cases h1
        · cases h1
        · exact h1
        · exact h1
        · cases h1
      · cases h1
    · exact h1
    · cases h1
  · cases h
 | convert s d x =>
  simp only [opA, convA] at h ⊢
  have he : ∀ {y k xs}, elemsOf objs y = some (k, xs) → ∀ l, elemsOf (objs ++ l) y = some (k, xs) := by
   intro y k xs hy l
   unfold elemsOf at hy ⊢
   split at hy
   · exact hy
   · cases hy
   · exact hy
   · exact hy
   · split at hy
     · rename_i hr; simp only [get_more hr]; exact hy
     · cases hy
   · cases hy
  split at h
  · split at h
    · split at h
      · rename_i hc; simp at h; simp_all
      · cases h
    · cases h
  · split at h
    · rename_i hc; simp at h; simp_all
    · split at h
      · rename_i hc; simp at h; simp_all
      · cases h
  · split at h
    · rename_i hc; simp at h; simp_all
    · cases h
  · split at h
    · rename_i hc
      split at h
      · rename_i k xs hel
        split at h
        · rename_i ns hns
          split at h
          · rename_i hf
            simp only [Option.some.injEq, Prod.mk.injEq] at h; obtain ⟨rfl, rfl⟩ := h
            refine ⟨rfl, fun l => ?_⟩
            rw [if_pos hc]
            simp only [he hel l, hns]
            rw [if_pos hf]
          · cases h
        · cases h
      · cases h
    · cases h
 | call c =>
  obtain ⟨callee, args, ts⟩ := c
  cases callee with
  | builtin b =>
   by_cases hmm : b = .min ∨ b = .max
   · rcases hmm with rfl | rfl <;> exact fromP rfl
   by_cases hcap : b = .cap
   · subst hcap
     simp only [opA] at h ⊢
     generalize ts.toList = tl at h ⊢
     generalize args.toList.map ρ = xl at h ⊢
     rcases tl with _ | ⟨t, _ | ⟨t2, tt⟩⟩ <;> rcases xl with _ | ⟨x, _ | ⟨x2, xt⟩⟩ <;> simp only [builtinA] at h ⊢ <;> (try cases h)
     split at h
     · rename_i T r len0 hT
       split at h
       · rename_i e c zs hk hr
         simp only [Option.some.injEq, Prod.mk.injEq] at h; obtain ⟨rfl, rfl⟩ := h
         refine ⟨rfl, fun l => ?_⟩
         simp only [hT, hk, get_more hr]
       · cases h
     · cases h
   cases b <;> (try simp at hmm) <;> (try simp at hcap) <;> simp only [isR, isP, Bool.false_eq_true] at hp
   simp only [opA, builtinA] at h ⊢
   have hl : ∀ x l, lenA (objs ++ l) x = lenA objs x := fun x l => by unfold lenA; rfl
   split at h <;> simp_all
   split at h
   · split at h
     · split at h <;> simp_all
     · split at h <;> simp_all
     · cases h
     · cases h
   · cases h
  | _ => simp [isR, isP] at hp
 | _ => exact fromP (by simpa [isR] using hp)

mutual
theorem impA_more : ∀ (d : D) {objs : List Obj} {a objs'}, impA objs d = some (a, objs') → ∃ l, objs' = objs ++ l
 | .v x, _, _, _, h => by simp [impA] at h; exact ⟨[], by simp [h.2]⟩
 | .row .own k xs, _, _, _, h => by simp [impA] at h; exact ⟨_, h.2.symm⟩
 | .row .ro k xs, _, _, _, h => by simp [impA] at h; exact ⟨[], by simp [h.2]⟩
 | .row .sn k xs, _, _, _, h => by simp [impA] at h
 | .agg cs, _, _, _, h => by
  simp only [impA] at h
  split at h
  · rename_i h1; simp at h; rw [← h.2]; exact impAs_more cs h1
  · cases h
 | .tup cs, _, _, _, h => by
  simp only [impA] at h
  split at h
  · rename_i h1; simp at h; rw [← h.2]; exact impAs_more cs h1
  · cases h
theorem impAs_more : ∀ (ds : List D) {objs : List Obj} {as objs'}, impAs objs ds = some (as, objs') → ∃ l, objs' = objs ++ l
 | [], _, _, _, h => by simp [impAs] at h; exact ⟨[], by simp [h.2]⟩
 | d :: ds, _, _, _, h => by
  simp only [impAs] at h
  split at h
  · rename_i h1
    split at h
    · rename_i h2; simp at h; rw [← h.2]
      obtain ⟨l1, rfl⟩ := impA_more d h1
      obtain ⟨l2, rfl⟩ := impAs_more ds h2
      exact ⟨l1 ++ l2, by simp⟩
    · cases h
  · cases h
end

theorem fx_E {ρ : Operand → AV} {o : Oper} {av objs'} (hp : isE o.op = true) (h : Fx P g ρ objs o av objs') : ∃ l, objs' = objs ++ l := by
 cases h with
 | call hc h hct he hr hno hi => exact impA_more _ hi
 | op h =>
  have fromR : isR o.op = true → ∃ l, objs' = objs ++ l := fun hp => ⟨[], by simp [(opA_R hp h).1]⟩
  cases ho : o.op with
  | alloc t =>
   rw [ho] at h
   simp only [opA, allocA] at h
   split at h
   · split at h
     · cases h; exact ⟨_, rfl⟩
     · cases h
   · cases h
  | makeSlice t x y =>
   rw [ho] at h
   simp only [opA] at h
   split at h
   · unfold makeSliceA at h
     split at h
     · split at h
       · split at h
         · split at h
           · simp at h; exact ⟨_, h.2.symm⟩
           · cases h
         · cases h
       · cases h
     · cases h
   · cases h
  | box t x =>
   rw [ho] at h
   simp only [opA, boxA] at h
   split at h
   · simp at h; exact ⟨_, h.2.symm⟩
   · cases h
  | buildSlice t n ps =>
   rw [ho] at h hp
   have hps : ps.toList = [] := by simpa [isE] using hp
   simp only [opA, buildSliceA, hps, List.map_nil, inOrder, cls] at h
   split at h
   · split at h
     · split at h
       · split at h
         · simp at h; exact ⟨_, h.2.symm⟩
         · cases h
       · cases h
     · cases h
   · cases h
  | range t x =>
   rw [ho] at h
   simp only [opA, rangeA] at h
   split at h
   · split at h
     · simp at h; exact ⟨_, h.2.symm⟩
     · cases h
   · cases h
  | call c =>
   obtain ⟨callee, args, ts⟩ := c
   cases callee with
   | value f => rw [ho] at h; simp [opA] at h
   | builtin b => exact fromR (by rw [ho] at hp ⊢; simpa [isE] using hp)
   | invoke r m => rw [ho] at h; simp [opA] at h
  | _ => exact fromR (by rw [ho] at hp ⊢; simpa [isE] using hp)

theorem notR_call {ρ : Operand → AV} {c : Call} {p} (h : calleeA ρ c = some p) : isP (.call c) = false ∧ isR (.call c) = false := by
 obtain ⟨callee, args, ts⟩ := c
 cases callee with
 | value f => exact ⟨rfl, rfl⟩
 | _ => simp [calleeA] at h

def soft (ops : Array Oper) (hard : List Nat) (x i : Nat) : Bool := match ops[x]?, ops[i]? with
 | some ox, some oi => Oper.apart ops ox oi && (isP ox.op || (isR ox.op && isE oi.op && !hard.contains i) || (isP oi.op && !hard.contains (x + 1000))) && !hard.contains (i + 1000)
 | _, _ => false

theorem putA_out {d : Option Tmp} {av s' } {i : Nat} (h : putA n s d av = some s') (hi : ∀ e, d = some e → e ≠ i) : s' i = s i := by
 cases d with
 | none => simp [putA] at h; rw [← h]
 | some e =>
  simp only [putA] at h
  split at h
  · simp at h; rw [← h]; simp only [upd]; rw [if_neg (fun x => hi e rfl x.symm)]
  · cases h

theorem evalA_out {d : Option Tmp} {av s'} {o : Oper} (h : putA n s d av = some s') (hd : ∀ e, d = some e → e ∉ o.looksAt ops) : ∀ x ∈ o.op.operands, evalA s' x = evalA s x := by
 intro x hx
 cases x with
 | tmp t =>
  simp only [evalA]
  refine putA_out h fun e he => ?_
  rintro rfl
  refine hd e he ?_
  simp only [Oper.looksAt, List.mem_append, List.mem_filterMap]
  exact .inl ⟨_, by simpa using hx, rfl⟩
 | _ => rfl

theorem gA_out {d : Option Tmp} {av s'} {o : Oper} (h : putA n s d av = some s') (hd : ∀ e, d = some e → e ∉ o.looksAt ops) : gA ops s' o = gA ops s o := by
 unfold gA
 cases hg : o.guard with
 | none => rfl
 | some p =>
  obtain ⟨j, want⟩ := p
  simp only
  cases hj : (ops[j]?).bind (·.dst) with
  | none => rfl
  | some e =>
   simp only
   rw [putA_out h fun e' he' => ?_]
   rintro rfl
   refine hd e' he' ?_
   simp only [Oper.looksAt, List.mem_append]
   right
   rw [hg]; simp [hj]

theorem fx_congr {ρ ρ' : Operand → AV} {o : Oper} {av objs'} (hx : ∀ x ∈ o.op.operands, ρ x = ρ' x) (h : Fx P g ρ objs o av objs') : Fx P g ρ' objs o av objs' := by
 cases h with
 | op h => exact .op (by rw [← opA_congr hx]; exact h)
 | call hc h hct he hr hno hi => exact .call hc (by rw [← calleeA_congr (by rw [hc] at hx; exact hx)]; exact h) hct he hr hno hi

theorem putA_comm {d e : Option Tmp} {av bv s1 s2} (h1 : putA n s d av = some s1) (h2 : putA n s1 e bv = some s2) (hde : ∀ x, d = some x → e ≠ some x) :
    ∃ s1', putA n s e bv = some s1' ∧ putA n s1' d av = some s2 := by
 cases d with
 | none => simp [putA] at h1; subst h1; exact ⟨s2, h2, by simp [putA]⟩
 | some d =>
  cases e with
  | none => simp [putA] at h2; subst h2; exact ⟨s, by simp [putA], h1⟩
  | some e =>
   have hne : d ≠ e := fun x => hde d rfl (by rw [x])
   simp only [putA] at *
   split at h1
   · rename_i hd
     split at h2
     · rename_i he
       simp at h1 h2; subst h1; subst h2
       refine ⟨_, by rw [if_pos he], ?_⟩
       rw [if_pos hd]
       simp only [Option.some.injEq]
       funext i
       simp only [upd]
       by_cases h1 : i = d
       · subst h1; simp [hne]
       · by_cases h2 : i = e
         · subst h2; simp [h1]
         · simp [h1, h2]
     · cases h2
   · cases h1

theorem St.swapP {x i s1 objs1 s2 objs2} {ox oi : Oper} (hox : ops[x]? = some ox) (hoi : ops[i]? = some oi) (ha : Oper.apart ops ox oi = true) (hpi : isP oi.op = true) (hxK : x + 1000 ∉ hard)
    (h1 : St P g n ops hard x s objs s1 objs1) (h2 : St P g n ops hard i s1 objs1 s2 objs2) :
    ∃ s1' objs1', St P g n ops hard i s objs s1' objs1' ∧ St P g n ops hard x s1' objs1' s2 objs2 := by
 obtain ⟨a1, a2, a3⟩ := Oper.apart_spec ha
 -- what the second makes, wherever it stands
 have hi : ∀ {d : Option Tmp} {av : AV}, ox.dst = d → putA n s d av = some s1 → ∃ s1', putA n s1' d av = some s2 ∧ objs2 = objs1 ∧ St P g n ops hard i s objs s1' objs ∧ (∀ o : Oper, o = ox → gA ops s1' o = gA ops s o ∧ ∀ y ∈ o.op.operands, evalA s1' y = evalA s y) := by
  intro d av hd hp
  subst hd
  cases h2 with
  | @run o av2 _ _ ho2 hg2 h2 hp2 =>
   rw [hoi] at ho2; simp only [Option.some.injEq] at ho2; subst ho2
   obtain ⟨s1', p1, p2⟩ := putA_comm hp hp2 a2
   cases h2 with
   | op h2 =>
    obtain ⟨rfl, hany⟩ := opA_P hpi h2
    have hx2 : Fx P g (evalA s) objs oi av2 objs := fx_congr (evalA_out hp a1) (.op (hany objs))
    exact ⟨s1', p2, rfl, .run hoi (by rw [← gA_out hp a1]; exact hg2) hx2 p1, fun o ho => by subst ho; exact ⟨gA_out p1 a3, fun y hy => evalA_out p1 a3 y hy⟩⟩
   | call hc h => rw [hc] at hpi; simp [(notR_call h).1] at hpi
  | @skip o _ ho2 hg2 hp2 =>
   rw [hoi] at ho2; simp only [Option.some.injEq] at ho2; subst ho2
   obtain ⟨s1', p1, p2⟩ := putA_comm hp hp2 a2
   exact ⟨s1', p2, rfl, .skip hoi (by rw [← gA_out hp a1]; exact hg2) p1, fun o ho => by subst ho; exact ⟨gA_out p1 a3, fun y hy => evalA_out p1 a3 y hy⟩⟩
  | inl ho2 hg2 hc2 hcl => rw [hoi] at ho2; simp only [Option.some.injEq] at ho2; subst ho2; rw [hc2] at hpi; simp [(notR_call hcl).1] at hpi
  | inlK ho2 hg2 hc2 hcl => rw [hoi] at ho2; simp only [Option.some.injEq] at ho2; subst ho2; rw [hc2] at hpi; simp [(notR_call hcl).1] at hpi
 cases h1 with
 | @run o av _ _ ho hg h hp =>
  rw [hox] at ho; simp only [Option.some.injEq] at ho; subst ho
  obtain ⟨s1', p2, rfl, hst, hx⟩ := hi rfl hp
  obtain ⟨e1, e2⟩ := hx _ rfl
  exact ⟨s1', objs, hst, .run hox (by rw [e1]; exact hg) (fx_congr (fun y hy => (e2 y hy).symm) h) p2⟩
 | @skip o _ ho hg hp =>
  rw [hox] at ho; simp only [Option.some.injEq] at ho; subst ho
  obtain ⟨s1', p2, rfl, hst, hx⟩ := hi rfl hp
  obtain ⟨e1, e2⟩ := hx _ rfl
  exact ⟨s1', _, hst, .skip hox (by rw [e1]; exact hg) p2⟩
 | @inl o cl f as av _ _ ho hg hc hcl hE hk hx0 hp =>
  rw [hox] at ho; simp only [Option.some.injEq] at ho; subst ho
  obtain ⟨s1', p2, rfl, hst, hx⟩ := hi rfl hp
  obtain ⟨e1, e2⟩ := hx _ rfl
  have hcl' : calleeA (evalA s1') cl = some (f, as) := by rw [calleeA_congr (by rw [hc] at e2; exact e2)]; exact hcl
  exact ⟨s1', objs, hst, .inl hox (by rw [e1]; exact hg) hc hcl' hE hk hx0 p2⟩
 | inlK _ _ _ _ _ _ _ hx0 => exact absurd hx0 hxK

theorem St.swap {x i s1 objs1 s2 objs2} (h1 : St P g n ops hard x s objs s1 objs1) (h2 : St P g n ops hard i s1 objs1 s2 objs2) (hs : soft ops hard x i = true) :
    ∃ s1' objs1', St P g n ops hard i s objs s1' objs1' ∧ St P g n ops hard x s1' objs1' s2 objs2 := by
 unfold soft at hs
 split at hs
 · rename_i ox oi hox hoi
   simp only [Bool.and_eq_true, Bool.or_eq_true] at hs
   obtain ⟨hs, hsK⟩ := hs
   obtain ⟨hsA, hsB⟩ := hs
   rcases hsB with hsB | hsB
   rotate_left
   · exact St.swapP hox hoi hsA hsB.1 (by simpa using hsB.2) h1 h2
   have hs : Oper.apart ops ox oi = true ∧ (isP ox.op = true ∨ (isR ox.op = true ∧ isE oi.op = true) ∧ (!hard.contains i) = true) := ⟨hsA, hsB⟩
   obtain ⟨a1, a2, a3⟩ := Oper.apart_spec hs.1
   cases h1 with
   | @run o av _ _ ho hg h hp =>
    rw [hox] at ho; simp only [Option.some.injEq] at ho; subst ho
    have hR : ∃ l : List Obj → Prop, True := ⟨fun _ => True, trivial⟩
    have hobj : objs1 = objs := by
     cases h with
     | op h => rcases hs.2 with q | q
               · exact (opA_P q h).1
               · exact (opA_R q.1.1 h).1
     | call hc h => rw [hc] at hs; simp [notR_call h] at hs
    subst hobj
    have hav : ∀ l, (isP ox.op = true ∨ ∃ k, l = objs1 ++ k) → Fx P g (evalA s) l ox av l := by
     intro l hl
     cases h with
     | op h =>
      refine .op ?_
      rcases hs.2 with q | q
      · exact (opA_P q h).2 l
      · rcases hl with hl | ⟨k, rfl⟩
        · exact (opA_P hl h).2 l
        · exact (opA_R q.1.1 h).2 k
     | call hc h => rw [hc] at hs; simp [notR_call h] at hs
    cases h2 with
    | @run o av2 _ _ ho2 hg2 h2 hp2 =>
     rw [hoi] at ho2; simp only [Option.some.injEq] at ho2; subst ho2
     obtain ⟨s1', p1, p2⟩ := putA_comm hp hp2 a2
     refine ⟨s1', objs2, .run hoi (by rw [← gA_out hp a1]; exact hg2) (fx_congr (evalA_out hp a1) h2) p1, .run hox (by rw [gA_out p1 a3]; exact hg) ?_ p2⟩
     refine fx_congr (fun x hx => (evalA_out p1 a3 x hx).symm) (hav objs2 ?_)
     rcases hs.2 with q | q
     · exact .inl q
     · exact .inr (fx_E q.1.2 h2)
    | @skip o _ ho2 hg2 hp2 =>
     rw [hoi] at ho2; simp only [Option.some.injEq] at ho2; subst ho2
     obtain ⟨s1', p1, p2⟩ := putA_comm hp hp2 a2
     exact ⟨s1', objs1, .skip hoi (by rw [← gA_out hp a1]; exact hg2) p1, .run hox (by rw [gA_out p1 a3]; exact hg) (fx_congr (fun x hx => (evalA_out p1 a3 x hx).symm) (hav objs1 (.inr ⟨[], by simp⟩))) p2⟩
    | @inl o cl f as av2 objs2 _ ho2 hg2 hc2 hcl hE hk hx hp2 =>
     rw [hoi] at ho2; simp only [Option.some.injEq] at ho2; subst ho2
     obtain ⟨s1', p1, p2⟩ := putA_comm hp hp2 a2
     have hcl' : calleeA (evalA s) cl = some (f, as) := by rw [← calleeA_congr (by have := evalA_out hp a1; rw [hc2] at this; exact this)]; exact hcl
     refine ⟨s1', objs2, .inl hoi (by rw [← gA_out hp a1]; exact hg2) hc2 hcl' hE hk hx p1, .run hox (by rw [gA_out p1 a3]; exact hg) ?_ p2⟩
     refine fx_congr (fun x hx => (evalA_out p1 a3 x hx).symm) (hav objs2 ?_)
     rcases hs.2 with q | q
     · exact .inl q
     · rcases hx with hx | hx
       · have := q.2; simp [hx] at this
       · exact .inr hx
    | inlK _ _ _ _ _ _ _ hx => simp [hx] at hsK
   | @skip o _ ho hg hp =>
    rw [hox] at ho; simp only [Option.some.injEq] at ho; subst ho
    cases h2 with
    | @run o av2 _ _ ho2 hg2 h2 hp2 =>
     rw [hoi] at ho2; simp only [Option.some.injEq] at ho2; subst ho2
     obtain ⟨s1', p1, p2⟩ := putA_comm hp hp2 a2
     exact ⟨s1', objs2, .run hoi (by rw [← gA_out hp a1]; exact hg2) (fx_congr (evalA_out hp a1) h2) p1, .skip hox (by rw [gA_out p1 a3]; exact hg) p2⟩
    | @skip o _ ho2 hg2 hp2 =>
     rw [hoi] at ho2; simp only [Option.some.injEq] at ho2; subst ho2
     obtain ⟨s1', p1, p2⟩ := putA_comm hp hp2 a2
     exact ⟨s1', objs, .skip hoi (by rw [← gA_out hp a1]; exact hg2) p1, .skip hox (by rw [gA_out p1 a3]; exact hg) p2⟩
    | @inl o cl f as av2 objs2 _ ho2 hg2 hc2 hcl hE hk hx hp2 =>
     rw [hoi] at ho2; simp only [Option.some.injEq] at ho2; subst ho2
     obtain ⟨s1', p1, p2⟩ := putA_comm hp hp2 a2
     have hcl' : calleeA (evalA s) cl = some (f, as) := by rw [← calleeA_congr (by have := evalA_out hp a1; rw [hc2] at this; exact this)]; exact hcl
     exact ⟨s1', objs2, .inl hoi (by rw [← gA_out hp a1]; exact hg2) hc2 hcl' hE hk hx p1, .skip hox (by rw [gA_out p1 a3]; exact hg) p2⟩
    | inlK _ _ _ _ _ _ _ hx => simp [hx] at hsK
   | @inl o cl f as av2 _ _ ho hg hc hcl =>
    rw [hox] at ho; simp only [Option.some.injEq] at ho; subst ho
    rw [hc] at hs; simp [notR_call hcl] at hs
   | @inlK o cl f as av2 _ _ ho hg hc hcl =>
    rw [hox] at ho; simp only [Option.some.injEq] at ho; subst ho
    rw [hc] at hs; simp [notR_call hcl] at hs
 · cases hs

theorem Tr.front {pre i post s' objs'} (h : Tr P g n ops hard (pre ++ i :: post) s objs s' objs') (hs : ∀ x ∈ pre, soft ops hard x i = true) : Tr P g n ops hard (i :: (pre ++ post)) s objs s' objs' := by
 induction pre generalizing s objs with
 | nil => exact h
 | cons x pre ih =>
  cases h with
  | cons h t =>
   cases ih t (fun y hy => hs y (by simp [hy])) with
   | cons h2 t2 =>
    obtain ⟨s1', o1', k1, k2⟩ := h.swap h2 (hs x (by simp))
    exact .cons k1 (.cons k2 t2)

def predsOf (ops : Array Oper) (i : Nat) : List Nat := match ops[i]? with
 | some o => (o.after.toList.filter (Region.binds .any)).map (·.on)
 | none => []

def ancs (ops : Array Oper) : Nat → Nat → List Nat
 | 0, i => predsOf ops i
 | n + 1, i => predsOf ops i ++ (predsOf ops i).flatMap (ancs ops n)

def pairsOk (ops : Array Oper) (hard : List Nat) (d : Nat) : List Nat → Bool
 | [] => true
 | i :: l => (predsOf ops i).all (fun j => decide (j < ops.size) && !(i :: l).contains j) && l.all (fun j => soft ops hard i j || (ancs ops d j).contains i) && pairsOk ops hard d l

def okOrder (ops : Array Oper) (hard : List Nat) (d : Nat) (o : List Nat) : Bool :=
 decide (o.length = ops.size) && decide o.Nodup && (List.range ops.size).all (fun i => o.contains i) && o.all (fun i => decide (i < ops.size)) && pairsOk ops hard d o

theorem pairsOk_mem {d : Nat} {pre : List Nat} {i : Nat} {post : List Nat} (h : pairsOk ops hard d (pre ++ i :: post) = true) : ∀ x ∈ pre, soft ops hard x i = true ∨ x ∈ ancs ops d i := by
 induction pre with
 | nil => simp
 | cons y pre ih =>
  simp only [List.cons_append, pairsOk, Bool.and_eq_true, List.all_eq_true] at h
  intro x hx
  rcases List.mem_cons.1 hx with rfl | hx
  · have := h.1.2 i (by simp)
    simpa using this
  · exact ih h.2 x hx

theorem pairsOk_del {d : Nat} {pre : List Nat} {i : Nat} {post : List Nat} (h : pairsOk ops hard d (pre ++ i :: post) = true) : pairsOk ops hard d (pre ++ post) = true := by
 induction pre with
 | nil => simp only [List.nil_append, pairsOk, Bool.and_eq_true] at h; exact h.2
 | cons y pre ih =>
  simp only [List.cons_append, pairsOk, Bool.and_eq_true, List.all_eq_true] at h ⊢
  refine ⟨⟨fun j hj => ?_, fun j hj => h.1.2 j (by simp at hj ⊢; rcases hj with hj | hj <;> simp [hj])⟩, ih h.2⟩
  have := h.1.1 j hj
  simp only [decide_eq_true_eq] at this ⊢
  refine ⟨this.1, ?_⟩
  have h2 := this.2
  simp at h2 ⊢
  exact ⟨h2.1, h2.2.1, h2.2.2.2⟩

theorem ancs_listed {listed : Nat → Prop} (hd : ∀ i, listed i → ∀ j ∈ predsOf ops i, listed j) : ∀ (d i : Nat), (∀ j ∈ predsOf ops i, listed j) → ∀ x ∈ ancs ops d i, listed x
 | 0, i, h, x, hx => h x hx
 | d + 1, i, h, x, hx => by
  simp only [ancs, List.mem_append, List.mem_flatMap] at hx
  rcases hx with hx | ⟨y, hy, hx⟩
  · exact h x hx
  · exact ancs_listed hd d y (hd y (h y hy)) x hx

theorem getD_set {a : Array Bool} {i j : Nat} (hi : i < a.size) (d : Bool) : (a.setIfInBounds i true).getD j d = if j = i then true else a.getD j d := by
 rw [Array.getD_eq_getD_getElem?, Array.getD_eq_getD_getElem?, Array.getElem?_setIfInBounds]
 by_cases h : j = i
 · subst h; simp [hi]
 · rw [if_neg (fun x => h x.symm), if_neg h]

theorem tr_linear {d : Nat} : ∀ (fuel t : Nat) (listed : Array Bool) (rest : List Nat) (s : Nat → AV) (objs : List Obj) (s' : Nat → AV) (objs' : List Obj), rest.length = fuel → listed.size = ops.size → rest.Nodup → (∀ i ∈ rest, i < ops.size) →
    (∀ i, i < ops.size → (listed.getD i true = false ↔ i ∈ rest)) → (∀ i, i < ops.size → listed.getD i true = true → ∀ j ∈ predsOf ops i, j < ops.size ∧ listed.getD j true = true) → pairsOk ops hard d rest = true →
    Tr P g n ops hard rest s objs s' objs' → Tr P g n ops hard (Region.linearise.go .any ops fuel t listed []) s objs s' objs' := by
 intro fuel
 induction fuel with
 | zero =>
  intro t listed rest s objs s' objs' hl _ _ _ _ _ _ h
  obtain rfl := List.length_eq_zero_iff.1 hl
  simpa [Region.linearise.go] using h
 | succ fuel ih =>
  intro t listed rest s objs s' objs' hl hsz hnd hin hmem hdown hp h
  have same : ∀ j, j < ops.size → listed.getD j false = listed.getD j true := fun j hj => by simp [Array.getD_eq_getD_getElem?, hsz, hj]
  have hready : ∀ i ∈ Region.ready .any ops listed, i ∈ rest ∧ ∀ j ∈ predsOf ops i, j < ops.size ∧ listed.getD j true = true := by
   intro i hi
   obtain ⟨h1, o, ho, h2⟩ := mem_ready.1 hi
   have hlt : i < ops.size := (Array.getElem?_eq_some_iff.1 ho).1
   refine ⟨(hmem i hlt).1 h1, fun j hj => ?_⟩
   simp only [predsOf, ho, List.mem_map, List.mem_filter] at hj
   obtain ⟨e, ⟨he, hb⟩, rfl⟩ := hj
   have := h2 e (by simpa using he) hb
   have hj : e.on < ops.size := by
    rcases Nat.lt_or_ge e.on ops.size with q | q
    · exact q
    · rw [Array.getD_eq_getD_getElem?, Array.getElem?_eq_none (by omega)] at this; simp at this
   exact ⟨hj, by rw [← same _ hj]; exact this⟩
  have hne : Region.ready .any ops listed ≠ [] := by
   cases rest with
   | nil => simp at hl
   | cons x rest =>
    have hx := hin x (by simp)
    have : x ∈ Region.ready .any ops listed := by
     refine mem_ready.2 ⟨(hmem x hx).2 (by simp), ops[x], by simp [hx], fun e he hb => ?_⟩
     simp only [pairsOk, Bool.and_eq_true, List.all_eq_true] at hp
     have := hp.1.1 e.on (by simp only [predsOf, List.mem_map, List.mem_filter]; rw [show ops[x]? = some ops[x] by simp [hx]]; simp only [List.mem_map, List.mem_filter]; exact ⟨e, ⟨by simpa using he, hb⟩, rfl⟩)
     simp only [decide_eq_true_eq] at this
     rw [same _ this.1]
     cases hq : listed.getD e.on true with
     | true => rfl
     | false =>
      have h1 := (hmem _ this.1).1 hq
      have h2 := this.2
      simp at h1 h2
      rcases h1 with h1 | h1
      · exact absurd h1 h2.1
      · exact absurd h1 h2.2
    exact fun e => by rw [e] at this; simp at this
  simp only [Region.linearise.go]
  change Tr P g n ops hard (match (Region.ready .any ops listed)[t % (Region.ready .any ops listed).length]? with
    | some i => Region.linearise.go .any ops fuel (t / (Region.ready .any ops listed).length) (listed.setIfInBounds i true) [i]
    | none => [].reverse) s objs s' objs'
  have hpos : 0 < (Region.ready .any ops listed).length := List.length_pos_iff.2 hne
  obtain ⟨i, hi⟩ : ∃ i, (Region.ready .any ops listed)[t % (Region.ready .any ops listed).length]? = some i := ⟨_, List.getElem?_eq_getElem (Nat.mod_lt _ hpos)⟩
  rw [hi]
  simp only
  have hir : i ∈ Region.ready .any ops listed := List.mem_of_getElem? hi
  obtain ⟨h1, h2⟩ := hready i hir
  rw [linearise_go_acc, List.reverse_singleton, List.singleton_append]
  obtain ⟨pre, post, rfl⟩ := List.append_of_mem h1
  have hilt := hin i (by simp)
  have hsoft : ∀ x ∈ pre, soft ops hard x i = true := by
   intro x hx
   rcases pairsOk_mem hp x hx with q | q
   · exact q
   · have := ancs_listed (listed := fun j => j < ops.size ∧ listed.getD j true = true) (fun j hj => hdown j hj.1 hj.2) d i h2 x q
     have h3 := (hmem x (hin x (by simp [hx]))).2 (by simp [hx])
     rw [this.2] at h3; cases h3
  cases h.front hsoft with
  | cons k1 k2 =>
   have hnd' : (pre ++ post).Nodup ∧ i ∉ pre ++ post := by
    rw [List.nodup_append] at hnd
    simp only [List.nodup_cons, List.mem_cons] at hnd
    refine ⟨List.nodup_append.2 ⟨hnd.1, hnd.2.1.2, fun a ha b hb => hnd.2.2 a ha b (.inr hb)⟩, ?_⟩
    simp only [List.mem_append, not_or]
    exact ⟨fun q => hnd.2.2 i q i (.inl rfl) rfl, hnd.2.1.1⟩
   refine .cons k1 (ih _ _ (pre ++ post) _ _ _ _ (by simp at hl ⊢; omega) (by simpa using hsz) hnd'.1 (fun j hj => hin j (by simp at hj ⊢; rcases hj with q | q <;> simp [q])) ?_ ?_ (pairsOk_del hp) k2)
   · intro j hj
     rw [getD_set (by omega)]
     by_cases hji : j = i
     · subst hji; simp; simpa using hnd'.2
     · rw [if_neg hji, hmem j hj]; simp [hji]
   · intro j hj hlj k hk
     rw [getD_set (by omega)] at hlj ⊢
     by_cases hji : j = i
     · subst hji
       have := h2 k hk
       refine ⟨this.1, ?_⟩
       split
       · rfl
       · exact this.2
     · rw [if_neg hji] at hlj
       have := hdown j hj hlj k hk
       refine ⟨this.1, ?_⟩
       split
       · rfl
       · exact this.2

theorem RelM.drawn {v} (h : RelM B w S objs gs om) : RelM B { w with drawn := v } S objs gs om :=
 ⟨h.len, fun r o ho => h.keepO (w' := { w with drawn := v }) (gs' := gs) (om' := om) ⟨List.prefix_rfl, ⟨rfl, rfl, rfl, Nat.le_refl _, fun _ _ => rfl⟩, fun b hb => ⟨hb, rfl⟩⟩ (h.obj r o ho) (fun b c hb _ => ⟨hb, rfl⟩), h.hS, h.hB⟩

theorem W_draw {id} (hko : KeepOk fl ops hard) (hm : P.follows .mixedOrders = true) (d : Nat) {o s' objs'} (ho : okOrder ops hard d o = true) (h : Tr P g n ops hard o s objs s' objs') (hq : Q .normal s' objs') : W P g B S n fl (.region id ops true) s objs Q := fun a w gs om h1 h2 h3 h4 h5 => by
 simp only [okOrder, Bool.and_eq_true, decide_eq_true_eq, List.all_eq_true, List.mem_range, List.contains_iff_mem] at ho
 obtain ⟨⟨⟨⟨hlen, q1⟩, q2⟩, q3⟩, q4⟩ := ho
 have x : Ext B w gs om { w with drawn := w.drawn + 1 } gs om := ⟨List.prefix_rfl, ⟨rfl, rfl, rfl, Nat.le_refl _, fun _ _ => rfl⟩, fun b hb => ⟨hb, rfl⟩⟩
 have hl : fl.n ≤ gs.length := by rw [h3.len]; exact h5
 refine wp_region_draw fun t => ?_
 simp only [Region.schedule, hm, Bool.true_or, if_true]
 have tr := tr_linear (P := P) (g := g) (n := n) (ops := ops) (hard := hard) (d := d) ops.size t (Array.replicate ops.size false) o s objs s' objs' hlen (by simp) q1 (fun i hi => q3 i hi)
  (fun i hi => by simp [hi, q2 i hi]) (fun i hi h => by simp [hi] at h) q4 h
 have := WR_tr (B := B) (S := S) (fl := fl) (l2 := []) (Q := Q) hko tr (WR_nil hq)
 rw [List.append_nil] at this
 exact wpOps_mono (this a { w with drawn := w.drawn + 1 } gs om (keepG h1 h2 x.below) h2 h3.drawn ⟨h4.size, h4.defers, fun i => h3.relV x (h4.rel i)⟩ h5) fun e a w2 h => h.trans x.ofFull hl

end
end Go.Awp

/- The walk over abstract states: one line an operation. Lemmas alone. -/
namespace Go.Awp
open Go.RowKit Go.Lib

noncomputable def specAt (ds : List D) (r : D) : List D → Option D := fun x => @ite _ (x = ds) (Classical.propDecidable _) (some r) none
def CtAt (P : Program) (g : Gl) (f : FuncId) (ds : List D) (r : D) : Prop := Ct P g f (specAt ds r)

theorem specAt_self {ds r} : specAt ds r ds = some r := by simp [specAt]

theorem ctAt_of_W {P : Program} {g : Gl} {f fn c ds r} (hf : P.funcs[f]? = some fn) (hb : fn.body = some c) (hnm : (fn.name == "runtime.NumGoroutine") = false) (hl : ds.length ≤ fn.ntmps)
    (h : ∀ B S, W P g B S fn.ntmps ⟨0, false⟩ c (argsA (ds.map argD)) [] (EndOut P fn r)) : CtAt P g f ds r :=
 ct_of_W hf hb hnm fun ds' r' B S h' => by
  unfold specAt at h'
  split at h'
  · rename_i e; cases h'; subst e; exact ⟨hl, h B S⟩
  · cases h'

def slots : List (Nat × AV) → Nat → AV
 | [], _ => .dead
 | (i, v) :: l, j => if j = i then v else slots l j

def told (s : Nat → AV) (c : Nat → Bool) : Nat → AV := fun i => bif c i then s i else .tup []

def allT : Nat → Bool := fun _ => true

def put (s : Nat → AV) : Option Tmp → AV → Nat → AV
 | none, _ => s
 | some d, v => upd s d v

def updB (c : Nat → Bool) : Option Tmp → Bool → Nat → Bool
 | none, _ => c
 | some d, b => fun i => if i = d then b else c i

def dstOk (n : Nat) : Option Tmp → Bool
 | none => true
 | some d => decide (d < n)

def argsOk (b : Bool) (c : Nat → Bool) : List Operand → Prop
 | [] => True
 | .tmp t :: xs => (b = true → c t = true) ∧ argsOk b c xs
 | _ :: xs => argsOk b c xs

def Got {α : Type} (x y : α) : Prop := x = y
theorem Got.mk {α : Type} {x : α} : Got x x := rfl

def guardB (ops : Array Oper) (s : Nat → AV) (c : Nat → Bool) : Option (Nat × Bool) → Option Bool
 | none => some true
 | some (j, want) => match (ops[j]?).bind (·.dst) with
  | some d => match s d with
   | .d (.v (.bool x)) => some (c d && (x == want))
   | _ => none
  | none => none

def condOf (c : Nat → Bool) : Operand → Bool
 | .tmp t => c t
 | _ => true

def pickL (s : Nat → AV) : List Nat → List (Nat × AV)
 | [] => []
 | t :: ts => (t, s t) :: pickL s ts

def allOk (c : Nat → Bool) : List Nat → Prop
 | [] => True
 | t :: ts => c t = true ∧ allOk c ts

def Run (P : Program) (g : Gl) (n : Nat) (ops : Array Oper) (hard : List Nat) (l : List Nat) (s : Nat → AV) (c : Nat → Bool) (objs : List Obj) (K : (Nat → AV) → (Nat → Bool) → List Obj → Prop) : Prop :=
 ∃ s' c' objs', Tr P g n ops hard l (told s c) objs (told s' c') objs' ∧ K s' c' objs'

section
variable {P : Program} {g : Gl} {B : Nat} {S : Nat → Prop} {n : Nat} {fl : Fl} {w : World} {gs : List G1} {om : Nat → Option (Nat × Bool)} {s : Nat → AV} {c : Nat → Bool} {objs : List Obj} {Q : Qt} {ops : Array Oper} {hard : List Nat}
variable {K : (Nat → AV) → (Nat → Bool) → List Obj → Prop}

theorem told_allT : told s allT = s := by funext i; simp [told, allT]

theorem putA_ok {d : Option Tmp} {av} (h : dstOk n d = true) : putA n s d av = some (put s d av) := by
 cases d with
 | none => rfl
 | some d => simp [dstOk] at h; simp [putA, put, h]

theorem told_put {d : Option Tmp} {av} {b : Bool} : told (put s d av) (updB c d b) = put (told s c) d (bif b then av else .tup []) := by
 cases d with
 | none => rfl
 | some d => funext i; simp only [told, put, updB, upd]; split <;> rfl

theorem evalA_told {o : Op} {b : Bool} (hb : b = true) (h : argsOk b c o.operands.toList) : ∀ x ∈ o.operands, evalA s x = evalA (told s c) x := by
 have key : ∀ l : List Operand, argsOk b c l → ∀ x ∈ l, evalA s x = evalA (told s c) x := by
  intro l
  induction l with
  | nil => simp
  | cons y l ih =>
   intro h x hx
   cases y with
   | tmp t =>
    simp only [argsOk] at h
    rcases List.mem_cons.1 hx with rfl | hx
    · simp [evalA, told, h.1 hb]
    · exact ih h.2 x hx
   | _ =>
    simp only [argsOk] at h
    rcases List.mem_cons.1 hx with rfl | hx
    · rfl
    · exact ih h x hx
 exact fun x hx => key _ h x (by simpa using hx)

theorem run_nil (h : K s c objs) : Run P g n ops hard [] s c objs K := ⟨s, c, objs, .nil, h⟩

theorem Run.cons {i l s1 c1 objs1} (h : St P g n ops hard i (told s c) objs (told s1 c1) objs1) (k : Run P g n ops hard l s1 c1 objs1 K) : Run P g n ops hard (i :: l) s c objs K := by
 obtain ⟨s', c', o', t, q⟩ := k
 exact ⟨s', c', o', .cons h t, q⟩

theorem run_op {i l} {o : Oper} {av objs'} (ho : ops[i]? = some o) (hg : o.guard = none) (hd : dstOk n o.dst = true) (h : Got (opA P (evalA s) objs o.op) (some (av, objs')))
    (k : Run P g n ops hard l (put s o.dst av) allT objs' K) : Run P g n ops hard (i :: l) s allT objs K := by
 refine Run.cons (s1 := put s o.dst av) (c1 := allT) ?_ k
 rw [told_allT, told_allT]
 exact .run ho (by simp [gA, hg]) (.op h) (putA_ok hd)

theorem gA_told {o : Oper} {b} (h : guardB ops s c o.guard = some b) : gA ops (told s c) o = some b := by
 unfold guardB at h
 unfold gA
 split at h
 · rename_i hg; rw [hg]; exact h
 · rename_i j want hg
   rw [hg]
   simp only
   split at h
   · rename_i d hd
     rw [hd]
     simp only
     split at h
     · rename_i x hs
       simp only [told, hs]
       cases hc : c d with
       | true => rw [hc] at h; simpa using h
       | false => rw [hc] at h; simpa using h
     · cases h
   · cases h

theorem run_if {i l} {o : Oper} {b av} (ho : ops[i]? = some o) (hg : Got (guardB ops s c o.guard) (some b)) (hd : dstOk n o.dst = true) (hx : argsOk b c o.op.operands.toList)
    (h : b = true → Got (opA P (evalA s) objs o.op) (some (av, objs))) (k : Run P g n ops hard l (put s o.dst av) (updB c o.dst b) objs K) : Run P g n ops hard (i :: l) s c objs K := by
 refine Run.cons (s1 := put s o.dst av) (c1 := updB c o.dst b) ?_ k
 rw [told_put]
 cases b with
 | true => exact .run ho (gA_told hg) (.op (by rw [← opA_congr (evalA_told rfl hx)]; exact h rfl)) (putA_ok hd)
 | false => exact .skip ho (gA_told hg) (putA_ok hd)

theorem run_op1 {i l} {o : Oper} {av objs'} (ho : ops[i]? = some o) (hg : o.guard = none) (hd : dstOk n o.dst = true) (hx : argsOk true c o.op.operands.toList)
    (h : Got (opA P (evalA s) objs o.op) (some (av, objs'))) (k : Run P g n ops hard l (put s o.dst av) (updB c o.dst true) objs' K) : Run P g n ops hard (i :: l) s c objs K := by
 refine Run.cons (s1 := put s o.dst av) (c1 := updB c o.dst true) ?_ k
 rw [told_put]
 exact .run ho (by simp [gA, hg]) (.op (by rw [← opA_congr (evalA_told rfl hx)]; exact h)) (putA_ok hd)

theorem run_pick {i l} {o : Oper} {x y z b t av b'} (ho : ops[i]? = some o) (hg : Got (guardB ops s c o.guard) (some b)) (hd : dstOk n o.dst = true) (hp : o.op = .pick x y z) (hx : argsOk b c [x])
    (ht : Got (evalA s x) (.d (.v (.bool t)))) (hav : Got (bif t then evalA s y else evalA s z) av) (hb : Got (b && (bif t then condOf c y else condOf c z)) b')
    (k : Run P g n ops hard l (put s o.dst av) (updB c o.dst b') objs K) : Run P g n ops hard (i :: l) s c objs K := by
 refine Run.cons (s1 := put s o.dst av) (c1 := updB c o.dst b') ?_ k
 rw [told_put, ← hb]
 have told_op : ∀ q : Operand, evalA (told s c) q = bif condOf c q then evalA s q else .tup [] := by
  intro q; cases q <;> rfl
 cases b with
 | true =>
  refine .run ho (gA_told hg) (.op (objs' := objs) ?_) (putA_ok hd)
  rw [hp]
  have hx' : condOf c x = true := by
   cases x with
   | tmp q => simp only [argsOk] at hx; exact hx.1 trivial
   | _ => rfl
  simp only [opA, told_op x, hx', cond_true]
  rw [show evalA s x = .d (.v (.bool t)) from ht]
  simp only [told_op, Option.some.injEq, Prod.mk.injEq, and_true, Bool.true_and]
  rw [← (show _ = av from hav)]
  cases t <;> simp
 | false => simpa using St.skip (hard := hard) ho (gA_told hg) (putA_ok (s := told s c) (av := .tup []) hd)

theorem run_call {i l} {o : Oper} {cl : Call} {b f as ds q r av objs'} (ho : ops[i]? = some o) (hg : Got (guardB ops s c o.guard) (some b)) (hd : dstOk n o.dst = true) (hc : o.op = .call cl) (hx : argsOk b c o.op.operands.toList)
    (h : Got (calleeA (evalA s) cl) (some (f, as))) (he : Got (expAs objs (kindsOf P cl.argTypes.toList) as) (some (ds, q))) (hct : b = true → CtAt P g f ds r) (hno : r.noRo = true) (hi : Got (impA objs r) (some (av, objs'))) (hb : b = true ∨ objs' = objs)
    (k : Run P g n ops hard l (put s o.dst av) (updB c o.dst b) objs' K) : Run P g n ops hard (i :: l) s c objs K := by
 refine Run.cons (s1 := put s o.dst av) (c1 := updB c o.dst b) ?_ k
 rw [told_put]
 cases b with
 | true => exact .run ho (gA_told hg) (.call hc (by rw [← calleeA_congr (by have := evalA_told (s := s) rfl hx; rw [hc] at this; exact this)]; exact h) (hct rfl) he specAt_self hno hi) (putA_ok hd)
 | false =>
  rcases hb with hb | hb
  · cases hb
  · subst hb; exact .skip ho (gA_told hg) (putA_ok hd)

theorem run_call0 {i l} {o : Oper} {cl : Call} {f as ds q r av objs'} (ho : ops[i]? = some o) (hg : o.guard = none) (hd : dstOk n o.dst = true) (hc : o.op = .call cl)
    (h : Got (calleeA (evalA s) cl) (some (f, as))) (he : Got (expAs objs (kindsOf P cl.argTypes.toList) as) (some (ds, q))) (hct : CtAt P g f ds r) (hno : r.noRo = true) (hi : Got (impA objs r) (some (av, objs')))
    (k : Run P g n ops hard l (put s o.dst av) allT objs' K) : Run P g n ops hard (i :: l) s allT objs K := by
 refine Run.cons (s1 := put s o.dst av) (c1 := allT) ?_ k
 rw [told_allT, told_allT]
 exact .run ho (by simp [gA, hg]) (.call hc h hct he specAt_self hno hi) (putA_ok hd)

theorem run_inl0 {i l} {o : Oper} {cl : Call} {f as av objs'} (ho : ops[i]? = some o) (hg : o.guard = none) (hd : dstOk n o.dst = true) (hc : o.op = .call cl)
    (h : Got (calleeA (evalA s) cl) (some (f, as))) (hE : Enters P f) (hk : ∀ B S, CallsA P g B S ⟨objs.length, true⟩ f as objs (fun a o => a = av ∧ o = objs')) (hx : i ∈ hard ∨ ∃ l, objs' = objs ++ l)
    (k : Run P g n ops hard l (put s o.dst av) allT objs' K) : Run P g n ops hard (i :: l) s allT objs K := by
 refine Run.cons (s1 := put s o.dst av) (c1 := allT) ?_ k
 rw [told_allT, told_allT]
 exact .inl ho (by simp [gA, hg]) hc h hE hk hx (putA_ok hd)

theorem run_inlK {i l} {o : Oper} {cl : Call} {f as av objs'} (ho : ops[i]? = some o) (hg : o.guard = none) (hd : dstOk n o.dst = true) (hc : o.op = .call cl)
    (h : Got (calleeA (evalA s) cl) (some (f, as))) (hE : Enters P f) (hs : FixS s) (hk : ∀ B S, CallsA P g B S ⟨objs.length, false⟩ f as objs (fun a o => a = av ∧ o = objs')) (hx : i + 1000 ∈ hard) (hz : ops.size ≤ 1000)
    (k : Run P g n ops hard l (put s o.dst av) allT objs' K) : Run P g n ops hard (i :: l) s allT objs K := by
 refine Run.cons (s1 := put s o.dst av) (c1 := allT) ?_ k
 rw [told_allT, told_allT]
 exact .inlK ho (by simp [gA, hg]) hc h hE hs hk hx hz (putA_ok hd)

theorem fixS_put {d : Option Tmp} {av : AV} (ha : av.fix = true) (hs : FixS s) : FixS (put s d av) := fun j => by
 cases d with
 | none => exact hs j
 | some d => simp only [put, upd]; split; exact ha; exact hs j

def Ends (Q : Qt) : (Nat → AV) → (Nat → Bool) → List Obj → Prop := fun s c objs => ∃ L, (∀ j, slots L j = .dead ∨ slots L j = told s c j) ∧ Q .normal (slots L) objs

theorem look_pick {live : List Nat} (h : allOk c live) (j : Nat) : slots (pickL s live) j = .dead ∨ slots (pickL s live) j = told s c j := by
 induction live with
 | nil => exact .inl rfl
 | cons t ts ih =>
  simp only [allOk] at h
  simp only [pickL, slots]
  split
  · rename_i e; subst e; right; simp [told, h.1]
  · exact ih h.2

theorem run_end (live : List Nat) {L} (hc : allOk c live) (hL : Got (pickL s live) L) (h : Q .normal (slots L) objs) : Run P g n ops hard [] s c objs (Ends Q) :=
 run_nil ⟨L, fun j => by rw [← (show _ = L from hL)]; exact look_pick hc j, h⟩

theorem RelF.less {a : Act} {N : Nat → Prop} {s2} (h : RelF n s a w S N gs) (hl : ∀ j, s2 j = .dead ∨ s2 j = s j) : RelF n s2 a w S N gs := ⟨h.size, h.defers, fun i => by
  rcases hl i with e | e
  · rw [e]; exact .dead
  · rw [e]; exact h.rel i⟩

theorem Weak.kill {s2} (hl : ∀ j, s2 j = .dead ∨ s2 j = s j) : Weak B S n fl s objs s2 objs := fun w a gs om h1 h2 _ => ⟨gs, om, h1, h2.less hl, (Ext.refl ..).take⟩

theorem WR_weak {l s2} (hl : ∀ j, s2 j = .dead ∨ s2 j = s j) (h : WR P g B S n fl ops l s2 objs Q) : WR P g B S n fl ops l s objs Q := fun a w gs om h1 h2 h3 h4 h5 => h a w gs om h1 h2 h3 (h4.less hl) h5

theorem W.less {code Q1} (h : W P g B S n fl code s objs Q1) (hq : ∀ e s o, Q1 e s o → ∃ s2, (∀ j, s2 j = .dead ∨ s2 j = s j) ∧ Q e s2 o) : W P g B S n fl code s objs Q := fun a w gs om h1 h2 h3 h4 h5 =>
 wp_mono (h a w gs om h1 h2 h3 h4 h5) fun e a w2 ⟨s', o', gs', om', q, m, f, x⟩ => by
  obtain ⟨s2, hl, q2⟩ := hq _ _ _ q
  exact ⟨s2, o', gs', om', q2, m, f.less hl, x⟩

theorem keepOk_range {l} (hl : Got (List.range ops.size) l) : KeepOk fl ops l := fun _ i hi => by
 rw [← (show _ = l from hl)] at hi; simpa using hi

theorem W_regK {id l} (hkeep : fl.keep = false) (hard : List Nat) (hl : Got (List.range ops.size) l) (h : Run P g n ops hard l s allT objs (Ends Q)) : W P g B S n fl (.region id ops false) s objs Q := by
 obtain ⟨s', c', o', t, L, h1, h2⟩ := h
 rw [told_allT] at t
 refine W_region hl ?_
 have := WR_tr (B := B) (S := S) (fl := fl) (l2 := []) (Q := Q) (fun q => by rw [hkeep] at q; cases q) t (WR_weak h1 (WR_nil h2))
 rwa [List.append_nil] at this

theorem W_reg {id l} (hl : Got (List.range ops.size) l) (h : Run P g n ops l l s allT objs (Ends Q)) : W P g B S n fl (.region id ops false) s objs Q := by
 obtain ⟨s', c', o', t, L, h1, h2⟩ := h
 rw [told_allT] at t
 refine W_region hl ?_
 have := WR_tr (B := B) (S := S) (fl := fl) (l2 := []) (Q := Q) (keepOk_range hl) t (WR_weak h1 (WR_nil h2))
 rwa [List.append_nil] at this

theorem W_regDK {id} (hkeep : fl.keep = false) (hm : P.follows .mixedOrders = true) (hard : List Nat) (d : Nat) (l : List Nat) (ho : okOrder ops hard d l = true) (h : Run P g n ops hard l s allT objs (Ends Q)) : W P g B S n fl (.region id ops true) s objs Q := by
 obtain ⟨s', c', o', t, L, h1, h2⟩ := h
 rw [told_allT] at t
 exact (W_draw (Q := fun e s o => e = .normal ∧ s = told s' c' ∧ o = o') (fun q => by rw [hkeep] at q; cases q) hm d ho t ⟨rfl, rfl, rfl⟩).less (fun e s o ⟨q1, q2, q3⟩ => by subst q1; subst q2; subst q3; exact ⟨_, h1, h2⟩)

theorem W_regD {id} (hm : P.follows .mixedOrders = true) (hard : List Nat) (d : Nat) (l : List Nat) (ho : okOrder ops hard d l = true) (h : Run P g n ops hard l s allT objs (Ends Q)) (hlt : ∀ i ∈ hard, i < 1000 := by decide) : W P g B S n fl (.region id ops true) s objs Q := by
 obtain ⟨s', c', o', t, L, h1, h2⟩ := h
 rw [told_allT] at t
 exact (W_draw (Q := fun e s o => e = .normal ∧ s = told s' c' ∧ o = o') (fun _ i hi => by have := hlt _ hi; omega) hm d ho t ⟨rfl, rfl, rfl⟩).less (fun e s o ⟨q1, q2, q3⟩ => by subst q1; subst q2; subst q3; exact ⟨_, h1, h2⟩)

end
end Go.Awp

/- The walk over abstract states: ends of bodies, loops' rounds. Lemmas alone. -/
namespace Go.Awp
open Go.RowKit Go.Lib
section
variable {P : Program} {g : Gl} {B : Nat} {S : Nat → Prop} {n : Nat} {fl : Fl} {w : World} {gs : List G1} {om : Nat → Option (Nat × Bool)} {s : Nat → AV} {c : Nat → Bool} {objs : List Obj} {Q : Qt} {ops : Array Oper}

theorem then_normal {code} : Then P g B S n fl code Q .normal s objs = (fl.n ≤ objs.length → W P g B S n fl code s objs Q) := rfl
theorem then_ret {code} : Then P g B S n fl code Q .ret s objs = Q .ret s objs := rfl
theorem then_exit {code i} : Then P g B S n fl code Q (.exit i) s objs = Q (.exit i) s objs := rfl
theorem inBlk_normal {i} : InBlk i Q .normal s objs = Q .normal s objs := rfl
theorem inBlk_ret {i} : InBlk i Q .ret s objs = Q .ret s objs := rfl
theorem inBlk_exit {i} : InBlk i Q (.exit i) s objs = Q .normal s objs := by simp [InBlk]
theorem end_ret {fn : Func} {r as d objs'} (h1 : Got (ressA P s objs fn.results.toList) (some as)) (h2 : Got (cl objs (tupA as)) (some (d, objs'))) (h3 : (nrmR (kindsOf P fn.resultTypes.toList) d).1 = r) (h4 : r.noSn = true) : EndOut P fn r .ret s objs :=
 ⟨as, d, objs', h1, h2, h3, h4⟩
theorem end_normal {fn : Func} {r as d objs'} (h1 : Got (ressA P s objs fn.results.toList) (some as)) (h2 : Got (cl objs (tupA as)) (some (d, objs'))) (h3 : (nrmR (kindsOf P fn.resultTypes.toList) d).1 = r) (h4 : r.noSn = true) : EndOut P fn r .normal s objs :=
 ⟨as, d, objs', h1, h2, h3, h4⟩

def Rounds (B : Nat) (S : Nat → Prop) (n : Nat) (fl : Fl) (I : Nat → (Nat → AV) → List Obj → Prop) (m : Nat) (Q : Qt) : Qt := fun e s' o' => match e with
 | .normal => ∃ m', m' < m ∧ ∃ s2 o2, Weak B S n fl s' o' s2 o2 ∧ I m' s2 o2
 | e => Q e s' o'

theorem W_rounds {code} (I : Nat → (Nat → AV) → List Obj → Prop) (m0 : Nat) {s0 objs0} (hw : Weak B S n fl s objs s0 objs0) (h0 : I m0 s0 objs0)
    (round : ∀ m s objs, I m s objs → fl.n ≤ objs.length → W P g B S n fl code s objs (Rounds B S n fl I m Q)) : W P g B S n fl (.loop code) s objs Q :=
 W_loop I m0 hw h0 fun m s o h1 h2 => (round m s o h1 h2).mono fun e s o h => by cases e <;> exact h

theorem rounds_next {I : Nat → (Nat → AV) → List Obj → Prop} {m m'} (hm : m' < m) (h : I m' s objs) : Rounds B S n fl I m (fun _ _ _ => False) .normal s objs := ⟨m', hm, s, objs, Weak.refl, h⟩
theorem slots_pick {live : List Nat} (j : Nat) : slots (pickL s live) j = .dead ∨ slots (pickL s live) j = s j := by
 induction live with
 | nil => exact .inl rfl
 | cons t ts ih =>
  simp only [pickL, slots]
  split
  · rename_i e; subst e; exact .inr rfl
  · exact ih

theorem rounds_kill (live : List Nat) {I : Nat → (Nat → AV) → List Obj → Prop} {m} (h : Rounds B S n fl I m (fun _ _ _ => False) .normal (slots (pickL s live)) objs) : Rounds B S n fl I m (fun _ _ _ => False) .normal s objs := by
 obtain ⟨m', hm, s2, o2, hw, hI⟩ := h
 exact ⟨m', hm, s2, o2, fun w a gs om h1 h2 h3 => hw w a gs om h1 (h2.less slots_pick) h3, hI⟩

theorem rounds_ret {I : Nat → (Nat → AV) → List Obj → Prop} {m} : Rounds B S n fl I m Q .ret s objs = Q .ret s objs := rfl
theorem rounds_exit {I : Nat → (Nat → AV) → List Obj → Prop} {m i} : Rounds B S n fl I m Q (.exit i) s objs = Q (.exit i) s objs := rfl

@[simp] theorem argD_v {x} : argD (.v x) = .d (.v x) := rfl
@[simp] theorem argD_row {m k xs} : argD (.row m k xs) = .d (.row m k xs) := rfl
@[simp] theorem argD_agg {cs} : argD (.agg cs) = .agg (cs.map .d) := rfl
@[simp] theorem cond_bools {t x y : Bool} : (bif t then AV.d (.v (.bool x)) else AV.d (.v (.bool y))) = AV.d (.v (.bool (bif t then x else y))) := by cases t <;> rfl
@[simp] theorem cond_ints {t : Bool} {k x y} : (bif t then AV.d (.v (.int k x)) else AV.d (.v (.int k y))) = AV.d (.v (.int k (bif t then x else y))) := by cases t <;> rfl
@[simp] theorem cond_self_t {t : Bool} : (bif t then t else true) = true := by cases t <;> rfl
@[simp] theorem cond_t_not {t : Bool} : (bif t then true else !t) = true := by cases t <;> rfl

theorem wrap64 {x : Int} (h1 : -9223372036854775808 ≤ x) (h2 : x < 9223372036854775808) : IntKind.i64.wrap x = x := by
 simp only [IntKind.wrap, IntKind.bits, IntKind.signed]
 simp only [Bool.true_and]
 split <;> simp_all <;> omega

def nth {α : Type} [Inhabited α] (l : List α) (i : Nat) : α := l.getD i default

theorem nth_eq {α : Type} [Inhabited α] {l : List α} {i : Nat} (h : i < l.length) : nth l i = l[i] := by simp [nth, List.getD_eq_getElem?_getD, h]

theorem get_some {α : Type} {l : List α} {i : Nat} [Inhabited α] (h : i < l.length) : l[i]? = some (nth l i) := by
 rw [nth_eq h]; simp [h]

theorem map_get {α β : Type} {f : α → β} {l : List α} {i : Nat} [Inhabited α] (h : i < l.length) : (l.map f)[i]? = some (f (nth l i)) := by
 rw [List.getElem?_map, get_some h]; rfl
end
attribute [simp] slots put upd guardB condOf pickL allOk argsOk opA evalA constA intOfA loadA cellsAt Ty.agg fieldAddrA binopA binA isShift intOp builtinA lenA allT updB D.cells argsA then_normal then_ret then_exit inBlk_normal inBlk_ret inBlk_exit rounds_ret rounds_exit resA ressA tupA rangeA nextA isStrTy extractA Op.operands Call.operands AV.int AV.bool AV.str
end Go.Awp

/- The walk over abstract states: objects that nobody names any more are dropped. Lemmas alone. -/
namespace Go.Awp
open Go.RowKit Go.Lib

mutual
def AV.lt (m : Nat) : AV → Bool
 | .hdr r _ _ => decide (r < m)
 | .ptr r _ _ => decide (r < m)
 | .agg cs => AV.lts m cs
 | .tup cs => AV.lts m cs
 | .fn _ a b => AV.lts m a && AV.lts m b
 | .ifc _ x => x.lt m
 | _ => true
def AV.lts (m : Nat) : List AV → Bool
 | [] => true
 | a :: as => a.lt m && AV.lts m as
end

def Obj.lt (m : Nat) : Obj → Bool
 | .var _ cs => AV.lts m cs
 | .hole _ r' _ _ => decide (r' < m)
 | .nhole _ r' _ _ => decide (r' < m)
 | .lp _ _ L _ _ => L.all fun p => p.2.lt m
 | _ => true

def objsLt (m : Nat) : List Obj → Bool
 | [] => true
 | o :: os => o.lt m && objsLt m os

def slotsLt (m : Nat) : List (Nat × AV) → Bool
 | [] => true
 | (_, a) :: l => a.lt m && slotsLt m l

section
variable {P : Program} {g : Gl} {B : Nat} {S : Nat → Prop} {n : Nat} {fl : Fl} {w : World} {gs : List G1} {om : Nat → Option (Nat × Bool)} {s : Nat → AV} {objs : List Obj} {Q : Qt}

theorem take_get {α : Type} {l : List α} {m r : Nat} {x : α} (h : l[r]? = some x) (hr : r < m) : (l.take m)[r]? = some x := by
 rw [List.getElem?_take, if_pos hr]; exact h

mutual
theorem RelV.take {N : Nat → Prop} {m : Nat} : ∀ {a v}, RelV w S N gs a v → a.lt m = true → RelV w S N (gs.take m) a v
 | _, _, .d h, _ => .d h
 | _, _, .hdr h1 h2 h3 h4 h5 h6, h => .hdr (take_get h1 (by simpa [AV.lt] using h)) h2 h3 h4 h5 h6
 | _, _, .hdr0 h1 h2, h => .hdr0 (take_get h1 (by simpa [AV.lt] using h)) h2
 | _, _, .cutNil, _ => .cutNil
 | _, _, .cutEmpty, _ => .cutEmpty
 | _, _, .cut h1 h2 h3 h4 h5 h6, _ => .cut h1 h2 h3 h4 h5 h6
 | _, _, .ptr h1 h2, h => .ptr (take_get h1 (by simpa [AV.lt] using h)) h2
 | _, _, .rp h1 h2 h3 h4 h5, _ => .rp h1 h2 h3 h4 h5
 | _, _, .agg h1, h => .agg (RelVs.takes h1 (by simpa [AV.lt] using h))
 | _, _, .tup h1, h => .tup (RelVs.takes h1 (by simpa [AV.lt] using h))
 | _, _, .fn h1 h2, h => .fn (RelVs.takes h1 (by simp [AV.lt] at h; exact h.1)) (RelVs.takes h2 (by simp [AV.lt] at h; exact h.2))
 | _, _, .ifc h1, h => .ifc (RelV.take h1 (by simpa [AV.lt] using h))
 | _, _, .dead, _ => .dead
theorem RelVs.takes {N : Nat → Prop} {m : Nat} : ∀ {as vs}, RelVs w S N gs as vs → AV.lts m as = true → RelVs w S N (gs.take m) as vs
 | _, _, .nil, _ => .nil
 | _, _, .cons h t, hh => .cons (RelV.take h (by simp [AV.lts] at hh; exact hh.1)) (RelVs.takes t (by simp [AV.lts] at hh; exact hh.2))
end

theorem objsLt_get {m : Nat} {l : List Obj} {r : Nat} {o : Obj} (h : objsLt m l = true) (ho : l[r]? = some o) : o.lt m = true := by
 induction l generalizing r with
 | nil => simp at ho
 | cons x l ih =>
  simp only [objsLt, Bool.and_eq_true] at h
  cases r with
  | zero => simp at ho; subst ho; exact h.1
  | succ r => exact ih h.2 (by simpa using ho)

theorem RelM.take {m : Nat} (h : RelM B w S objs gs om) (ho : objsLt m (objs.take m) = true) : RelM B w S (objs.take m) (gs.take m) om := by
 refine ⟨by simp [h.len], fun r o hr => ?_, h.hS, h.hB⟩
 have hrm : r < m := by
  rcases Nat.lt_or_ge r m with h | h
  · exact h
  · rw [List.getElem?_take, if_neg (by omega)] at hr; cases hr
 have hlt := objsLt_get ho hr
 rw [List.getElem?_take, if_pos hrm] at hr
 have key : ∀ o, RelO B w S gs om r o → o.lt m = true → RelO B w S (gs.take m) om r o := by
  intro o ho
  induction ho with
  | var hg hb hB ho hw hv => exact fun hlt => .var (take_get hg hrm) hb hB ho hw (RelVs.takes hv (by simpa [Obj.lt] using hlt))
  | row0 hg hk hb => exact fun _ => .row0 (take_get hg hrm) hk hb
  | row hg hgk hb hB ho hw hc hn hk' hvs hv hF hFo => exact fun _ => .row (take_get hg hrm) hgk hb hB ho hw hc hn hk' hvs hv hF hFo
  | hole ho hi hne hv ih => exact fun hlt => .hole (ih rfl) hi hne (RelV.take hv (by simpa [Obj.lt, AV.lt] using hlt))
  | it hg hb hB ho hw => exact fun _ => .it (take_get hg hrm) hb hB ho hw
  | lp hg hb hB ho hw hs hv => exact fun hlt => .lp (take_get hg hrm) hb hB ho hw hs (fun p hp => RelV.take (hv p hp) (List.all_eq_true.1 (by simpa only [Obj.lt] using hlt) p hp))
  | blk hg hb hB ho hw => exact fun _ => .blk (take_get hg hrm) hb hB ho hw
  | nest0 hg hk hb => exact fun _ => .nest0 (take_get hg hrm) hk hb
  | nest hg hgk hb hB ho hw hc hn hvs hv hF hFo => exact fun _ => .nest (take_get hg hrm) hgk hb hB ho hw hc hn hvs hv hF hFo
  | nhole ho hi hne hv ih => exact fun hlt => .nhole (ih rfl) hi hne (RelV.take hv (by simpa [Obj.lt, AV.lt] using hlt))
  | grow0 hg hk hb hz => exact fun _ => .grow0 (take_get hg hrm) hk hb hz
  | grow hg hgk hb hB ho hw hc hgc hn hvs => exact fun _ => .grow (take_get hg hrm) hgk hb hB ho hw hc hgc hn hvs
  | dead => exact fun _ => .dead
 exact key o (h.obj r o hr) hlt

theorem slotsLt_get {m : Nat} {L : List (Nat × AV)} (h : slotsLt m L = true) (j : Nat) : (slots L j).lt m = true := by
 induction L with
 | nil => rfl
 | cons p L ih =>
  obtain ⟨i, a⟩ := p
  simp only [slotsLt, Bool.and_eq_true] at h
  simp only [slots]
  split
  · exact h.1
  · exact ih h.2

theorem ExtW.takeTo {m : Nat} (hm : fl.n ≤ m) : ExtW fl B w gs om w (gs.take m) om :=
 ⟨by rw [show gs.take fl.n = (gs.take m).take fl.n by rw [List.take_take]; congr 1; omega]; exact List.take_prefix _ _, .refl _ _, fun _ _ h => ⟨h, rfl⟩⟩

theorem Weak.drop {m : Nat} (live : List Nat) (hm : fl.n ≤ m) (hs : slotsLt m (pickL s live) = true) (ho : objsLt m (objs.take m) = true) : Weak B S n fl s objs (slots (pickL s live)) (objs.take m) := fun w a gs om h1 h2 _ =>
 ⟨gs.take m, om, h1.take ho, ⟨h2.size, h2.defers, fun i => by
   rcases slots_pick (s := s) (live := live) i with e | e
   · rw [e]; exact .dead
   · have := slotsLt_get hs i
     rw [e] at this ⊢
     exact RelV.take (h2.rel i) this⟩, .takeTo hm⟩

theorem Weak.trans {s1 o1 s2 o2} (h : Weak B S n fl s objs s1 o1) (k : Weak B S n fl s1 o1 s2 o2) (hl : ∀ (w : World) gs om, RelM B w S o1 gs om → fl.n ≤ gs.length → fl.n ≤ o1.length) : Weak B S n fl s objs s2 o2 := fun w a gs om h1 h2 h3 => by
 obtain ⟨gs1, om1, m1, f1, x1⟩ := h w a gs om h1 h2 h3
 have hg : fl.n ≤ gs.length := by rw [h1.len]; exact h3
 obtain ⟨gs2, om2, m2, f2, x2⟩ := k w a gs1 om1 m1 f1 (by rw [← m1.len]; exact x1.len hg)
 exact ⟨gs2, om2, m2, f2, x1.cutTrans x2 hg⟩

theorem rounds_drop (m1 : Nat) (live : List Nat) {I : Nat → (Nat → AV) → List Obj → Prop} {m} (hm : fl.n ≤ m1) (hs : slotsLt m1 (pickL s live) = true) (ho : objsLt m1 (objs.take m1) = true)
    (h : Rounds B S n fl I m (fun _ _ _ => False) .normal (slots (pickL s live)) (objs.take m1)) : Rounds B S n fl I m (fun _ _ _ => False) .normal s objs := by
 obtain ⟨m', hm', s2, o2, hw, hI⟩ := h
 exact ⟨m', hm', s2, o2, (Weak.drop live hm hs ho).trans hw (fun w gs om h1 h2 => by rw [← h1.len]; exact h2), hI⟩

def EndAt (P : Program) (fn : Func) (fl : Nat) (av : AV) (objs' : List Obj) : Qt := fun e s objs => match e with
 | .normal | .ret => ∃ as, ressA P s objs fn.results.toList = some as ∧ tupA as = av ∧ (objs' = objs ∨ ∃ m, objs' = objs.take m ∧ fl ≤ m ∧ av.lt m = true ∧ objsLt m (objs.take m) = true)
 | _ => False

theorem callsA_at {kp : Bool} {fn code f as av objs'} (hf : P.funcs[f]? = some fn) (hb : fn.body = some code) (hn : as.length ≤ fn.ntmps) (h : ∀ B S, W P g B S fn.ntmps ⟨objs.length, kp⟩ code (argsA as) objs (EndAt P fn objs.length av objs')) :
    ∀ B S, CallsA P g B S ⟨objs.length, kp⟩ f as objs (fun a o => a = av ∧ o = objs') := by
 intro B S vs w gs om h1 h2 h3 h4 h5
 have fin : ∀ (s' : Nat → AV) (objs2 : List Obj) gs' om' a w', (∃ as, ressA P s' objs2 fn.results.toList = some as ∧ tupA as = av ∧ (objs' = objs2 ∨ ∃ m, objs' = objs2.take m ∧ objs.length ≤ m ∧ av.lt m = true ∧ objsLt m (objs2.take m) = true)) →
     RelM B w' S objs2 gs' om' → RelF fn.ntmps s' a w' S (Inner B w' om') gs' → ExtW ⟨objs.length, kp⟩ B w gs om w' gs' om' →
     a.defers = [] ∧ ∃ v, (results fn a.tmps).run P w' = .ok v w' ∧ ∃ v' av' o' gs2 om2, Ending.returned v = .returned v' ∧ (av' = av ∧ o' = objs') ∧ RelM B w' S o' gs2 om2 ∧ RelV w' S (Inner B w' om2) gs2 av' v' ∧ ExtW ⟨objs.length, kp⟩ B w gs om w' gs2 om2 := by
  rintro s' objs2 gs' om' a w' ⟨as', hr, hK, hm⟩ m fr x
  obtain ⟨v, r1, r2⟩ := results_sound m fr hr
  rw [hK] at r2
  rcases hm with rfl | ⟨q, rfl, e1, e2, e3⟩
  · exact ⟨fr.defers, v, r1, v, av, _, gs', om', rfl, ⟨rfl, rfl⟩, m, r2, x⟩
  · refine ⟨fr.defers, v, r1, v, av, _, gs'.take q, om', rfl, ⟨rfl, rfl⟩, m.take e3, RelV.take r2 e2, x.cutTrans (gs1 := gs') (.takeTo e1) (by rw [h3.len]; exact Nat.le_refl _)⟩
 refine calls_of_wp hf hb (wp_mono (h B S _ w gs om h1 h2 h3 (.init h4 hn) (Nat.le_refl _)) ?_)
 rintro e a w' ⟨s', objs2, gs', om', q, m, fr, x⟩
 cases e with
 | normal => exact fin s' objs2 gs' om' a w' q m fr x
 | ret => exact fin s' objs2 gs' om' a w' q m fr x
 | _ => exact q.elim

theorem endAt_ret {fl : Nat} {fn : Func} {as av objs'} (h1 : Got (ressA P s objs fn.results.toList) (some as)) (h2 : tupA as = av) (h3 : objs' = objs) : EndAt P fn fl av objs' .ret s objs := ⟨as, h1, h2, .inl h3⟩
theorem endAt_drop {fl : Nat} {fn : Func} {as av objs'} (m : Nat) (h1 : Got (ressA P s objs fn.results.toList) (some as)) (h2 : tupA as = av) (h3 : objs' = objs.take m) (h4 : fl ≤ m) (h5 : av.lt m = true) (h6 : objsLt m (objs.take m) = true) : EndAt P fn fl av objs' .ret s objs :=
 ⟨as, h1, h2, .inr ⟨m, h3, h4, h5, h6⟩⟩
end
attribute [simp] AV.lt AV.lts objsLt slotsLt
section
variable {m : Nat}
@[simp] theorem lt_var {T cs} : Obj.lt m (.var T cs) = AV.lts m cs := rfl
@[simp] theorem lt_row {k xs} : Obj.lt m (.row k xs) = true := rfl
@[simp] theorem lt_it {s p} : Obj.lt m (.it s p) = true := rfl
@[simp] theorem lt_hole {i r' l xs} : Obj.lt m (.hole i r' l xs) = decide (r' < m) := rfl
@[simp] theorem lt_lp {l c L st p} : Obj.lt m (.lp l c L st p) = L.all fun p => p.2.lt m := rfl
@[simp] theorem lt_nest {L} : Obj.lt m (.nest L) = true := rfl
@[simp] theorem lt_nhole {i r' l L} : Obj.lt m (.nhole i r' l L) = decide (r' < m) := rfl
@[simp] theorem lt_grow {c zs} : Obj.lt m (.grow c zs) = true := rfl
@[simp] theorem lt_blk {b} : Obj.lt m (.blk b) = true := rfl
@[simp] theorem lt_dead : Obj.lt m .dead = true := rfl
end
end Go.Awp

/- Rows of data by an encoding of their elements. Lemmas alone. -/
namespace Go.Awp
open Go.RowKit Go.Lib
section
variable {α : Type}
def rows (k : Nat) (f : α → D) (l : List α) : D := .row .ro k (l.map f)
def ownR (k : Nat) (f : α → D) (l : List α) : D := .row .own k (l.map f)

theorem row_rows {k : Nat} {f : α → D} {l : List α} : D.row .ro k (l.map f) = rows k f l := rfl
@[simp] theorem roed_rows {k : Nat} {f : α → D} {l : List α} (h : ∀ x, (f x).roed = f x) : (rows k f l).roed = rows k f l := by
 unfold rows; rw [roed_row, List.map_map]; congr 1; exact List.map_congr_left fun x _ => h x
@[simp] theorem rowNil_rows {q} {k : Nat} {f : α → D} {l : List α} : rowNil q (rows k f l) = rows k f l := by unfold rowNil rows; cases q <;> rfl
@[simp] theorem rowNil_none {d : D} : rowNil none d = d := rfl
@[simp] theorem rowNil_nil {k} : rowNil (some k) (.v (.slice none 0 0)) = .row .ro k [] := rfl
@[simp] theorem rowNil_row {q m k xs} : rowNil q (.row m k xs) = .row m k xs := by unfold rowNil; cases q <;> rfl
@[simp] theorem noRo_ownR {k : Nat} {f : α → D} {l : List α} (h : ∀ x, (f x).noRo = true) : (ownR k f l).noRo = true := by
 unfold ownR; rw [noRo_row]; simp [h]
@[simp] theorem noSn_ownR {k : Nat} {f : α → D} {l : List α} (h : ∀ x, (f x).noSn = true) : (ownR k f l).noSn = true := by
 unfold ownR; rw [noSn_row]; simp [h]
@[simp] theorem argD_rows {k : Nat} {f : α → D} {l : List α} : argD (rows k f l) = .d (rows k f l) := rfl
@[simp] theorem impA_ownR {k : Nat} {f : α → D} {l : List α} {objs : List Obj} : impA objs (ownR k f l) = some (.hdr objs.length 0 l.length, objs ++ [.row k (l.map f)]) := by unfold ownR impA; simp
@[simp high] theorem cells_rows {k : Nat} {f : α → D} {l : List α} : (rows k f l).cells = [rows k f l] := rfl
@[simp high] theorem len_rows {P : Program} {objs : List Obj} {t : TypeId} {k : Nat} {f : α → D} {l : List α} : builtinA P objs .len [t] [.d (rows k f l)] = (match ty P t with
    | some T => match T.k with
      | .slice _ => some (.int .i64 l.length, objs)
      | _ => none
    | none => none) := by
 unfold rows builtinA
 simp only [lenA]
 cases ty P t with
 | none => rfl
 | some T =>
  simp only
  cases T.k <;> simp
@[simp high] theorem index_rows [Inhabited α] {P : Program} {objs : List Obj} {t : TypeId} {k : Nat} {f : α → D} {l : List α} {i : Int} : indexAddrA P objs t (.d (rows k f l)) i = (match ty P t with
    | some { k := .slice e, .. } => match ty P e with
      | some T => if k = T.size ∧ 0 ≤ i ∧ i < l.length then some (.rp (f (nth l i.toNat)).cells 0) else none
      | none => none
    | _ => none) := by
 unfold rows indexAddrA
 cases ty P t with
 | none => rfl
 | some T =>
  obtain ⟨sz, by', K, z⟩ := T
  cases K with
  | slice e =>
   simp only
   cases ty P e with
   | none => rfl
   | some T =>
    simp only [List.length_map]
    split
    · rename_i hc; rw [map_get (by omega)]; rfl
    · rfl
  | array m e => simp only; cases ty P e <;> rfl
  | _ => rfl
@[simp] theorem index_hdr {P : Program} {objs : List Obj} {t : TypeId} {r off len : Nat} {i : Int} : indexAddrA P objs t (.hdr r off len) i = (match ty P t with
    | some { k := .slice e, .. } => match ty P e with
      | some T => match objs[r]? with
        | some (.row k _) => if k = T.size ∧ 0 ≤ i ∧ i < len then some (.ptr r (off + i.toNat) 0) else none
        | some (.hole ..) => if 1 = T.size ∧ 0 ≤ i ∧ i < len then some (.ptr r (off + i.toNat) 0) else none
        | some (.nhole ..) => if 1 = T.size ∧ 0 ≤ i ∧ i < len then some (.ptr r (off + i.toNat) 0) else none
        | some (.grow ..) => if 1 = T.size ∧ 0 ≤ i ∧ i < len then some (.ptr r (off + i.toNat) 0) else none
        | _ => none
      | none => none
    | _ => none) := by
 unfold indexAddrA
 cases ty P t with
 | none => rfl
 | some T =>
  obtain ⟨sz, by', K, z⟩ := T
  cases K with
  | array m e => simp only; cases ty P e <;> rfl
  | _ => rfl
@[simp high] theorem slice_rows {P : Program} {objs : List Obj} {t : TypeId} {k : Nat} {f : α → D} {l : List α} {lo hi : Option Int} : sliceA P objs t (.d (rows k f l)) lo hi none = (match ty P t with
    | some { k := .slice e, .. } => match ty P e with
      | some T => if k = T.size ∧ 0 ≤ lo.getD 0 ∧ lo.getD 0 ≤ hi.getD l.length ∧ hi.getD l.length ≤ l.length then some (.d (rows k f ((l.drop (lo.getD 0).toNat).take ((hi.getD l.length).toNat - (lo.getD 0).toNat)))) else none
      | none => none
    | _ => none) := by
 unfold rows sliceA
 cases ty P t with
 | none => rfl
 | some T =>
  obtain ⟨sz, by', K, z⟩ := T
  cases K with
  | slice e =>
   simp only
   cases ty P e with
   | none => rfl
   | some T => simp only [List.length_map, List.map_take, List.map_drop]
  | _ => rfl
@[simp] theorem isCell_rows {k : Nat} {f : α → D} {l : List α} : AV.isCell (.d (rows k f l)) = true := rfl
end

section
variable {P : Program} {g : Gl} {B : Nat} {S : Nat → Prop} {n : Nat} {fl : Fl} {w : World} {gs : List G1} {om : Nat → Option (Nat × Bool)} {s : Nat → AV} {objs : List Obj} {Q : Qt} {ops : Array Oper}

def rowLen : AV → Option Nat
 | .d (.v (.slice none 0 0)) => some 0
 | .d (.row _ _ xs) => some xs.length
 | .cut _ xs => some xs.length
 | .hdr _ _ len => some len
 | _ => none

theorem rowLen_rel {N : Nat → Prop} {x v len} (hx : RelV w S N gs x v) (h : rowLen x = some len) : ∃ a c, v = .slice a len c ∧ (a = none → len = 0) := by
 unfold rowLen at h
 split at h
 · cases h; cases hx with | d hx => cases hx; exact ⟨none, 0, rfl, fun _ => rfl⟩
 · cases h
   cases hx with
   | d hx =>
    cases hx with
    | nil => exact ⟨none, 0, rfl, fun _ => rfl⟩
    | empty => exact ⟨_, _, rfl, fun _ => rfl⟩
    | old => exact ⟨_, _, rfl, by simp⟩
 · cases h
   cases hx with
   | cutNil => exact ⟨none, 0, rfl, fun _ => rfl⟩
   | cutEmpty => exact ⟨_, _, rfl, fun _ => rfl⟩
   | cut => exact ⟨_, _, rfl, by simp⟩
 · cases h
   cases hx with
   | hdr => exact ⟨_, _, rfl, by simp⟩
   | hdr0 => exact ⟨none, 0, rfl, fun _ => rfl⟩
 · cases h

theorem WR_nilcmp {i l} {o : Oper} {op t x yt len} (ho : ops[i]? = some o) (hg : o.guard = none) (hop : o.op = .binOp op t x (.const (.slice none 0 0)) yt) (h2 : op = .eql ∨ op = .neq) (hd : dstOk n o.dst = true)
    (ht : ∃ e, P.underlying t = some (.slice e)) (hx : rowLen (evalA s x) = some len)
    (hk : ∀ b : Bool, (b = true → len = 0) → WR P g B S n fl ops l (put s o.dst (.d (.v (.bool (if op = .eql then b else !b))))) objs Q) : WR P g B S n fl ops (i :: l) s objs Q := fun a w gs om h1 h2' h3 h4 h5 => by
 obtain ⟨e, he⟩ := ht
 obtain ⟨ad, c, hv, hn⟩ := rowLen_rel (evalA_rel h4 x) hx
 have hk := hk ad.isNone (fun q => hn (by simpa using q)) _ w gs om h1 h2' h3 (RelF.put h4 (.d (.v rfl)) (putA_ok hd)) h5
 simp only [wpOps, ho]
 rw [if_pos (by unfold Region.wanted; rw [hg])]
 left
 unfold Oper.wp
 have e1 : (execOp a.eval o).run P w = .ok (.value (.bool (if op = .eql then ad.isNone else !ad.isNone))) w := by
  have : execOp a.eval o = (do pure (Next.value (← (do eqGuard op t x (.const (.slice none 0 0)) (a.eval x) (.slice none 0 0); binOp op t (a.eval x) (.slice none 0 0) : Sem Value))) : Sem Next) := by
   obtain ⟨dst, op', ty', pos, after, guard⟩ := o
   simp only at hop; subst hop; rfl
  rw [this, hv]
  rcases h2 with rfl | rfl
  · simp [eqGuard, binOp, run_equal_slice_nil w t e ad len c he]
  · simp [eqGuard, run_neq_slice_nil w t e ad len c he]
 rw [e1]
 exact hk

theorem WR_run {l} {hard} (h : Run P g n ops hard l s allT objs (Ends Q)) (hlt : ∀ i ∈ hard, i < 1000 := by decide) : WR P g B S n fl ops l s objs Q := by
 obtain ⟨s', c', o', t, L, h1, h2⟩ := h
 rw [told_allT] at t
 have := WR_tr (B := B) (S := S) (fl := fl) (l2 := []) (Q := Q) (fun _ i hi => by have := hlt _ hi; omega) t (WR_weak h1 (WR_nil h2))
 rwa [List.append_nil] at this
theorem WR_cut (l1 l2 : List Nat) {hard} (h : Run P g n ops hard l1 s allT objs (Ends fun e s o => WR P g B S n fl ops l2 s o Q)) (hlt : ∀ i ∈ hard, i < 1000 := by decide) : WR P g B S n fl ops (l1 ++ l2) s objs Q := by
 obtain ⟨s', c', o', t, L, h1, h2⟩ := h
 rw [told_allT] at t
 exact WR_tr (B := B) (S := S) (fl := fl) (l2 := l2) (Q := Q) (fun _ i hi => by have := hlt _ hi; omega) t (WR_weak h1 h2)
@[simp] theorem rowLen_rows {α : Type} {k : Nat} {f : α → D} {l : List α} : rowLen (.d (rows k f l)) = some l.length := by simp [rowLen, rows]
end
attribute [simp] roed_v roed_agg noRo_v noRo_agg noRo_tup noSn_v noSn_agg noSn_tup
end Go.Awp

/- The walk over abstract states: an inner row taken out and put back; calls in place that may write into inner rows. Lemmas alone. -/
namespace Go.Awp
open Go.RowKit Go.Lib

def Obj.fix : Obj → Bool
 | .var _ cs => AV.fixs cs
 | .row _ xs => xs.all D.noSn
 | .hole _ _ _ xs => xs.all D.noSn
 | .lp _ _ L _ _ => L.all fun p => p.2.fix
 | _ => true

def objsFix : List Obj → Bool
 | [] => true
 | o :: os => o.fix && objsFix os

def slotsFix : List (Nat × AV) → Bool
 | [] => true
 | (_, a) :: l => a.fix && slotsFix l

theorem objsFix_get {l : List Obj} {r : Nat} {o : Obj} (h : objsFix l = true) (ho : l[r]? = some o) : o.fix = true := by
 induction l generalizing r with
 | nil => simp at ho
 | cons x l ih =>
  simp only [objsFix, Bool.and_eq_true] at h
  cases r with
  | zero => simp at ho; subst ho; exact h.1
  | succ r => exact ih h.2 (by simpa using ho)

theorem slotsFix_get {L : List (Nat × AV)} (h : slotsFix L = true) (j : Nat) : (slots L j).fix = true := by
 induction L with
 | nil => rfl
 | cons p L ih =>
  obtain ⟨i, a⟩ := p
  simp only [slotsFix, Bool.and_eq_true] at h
  simp only [slots]
  split
  · exact h.1
  · exact ih h.2

theorem fixS_slots {L : List (Nat × AV)} (h : slotsFix L = true) : FixS (slots L) := fun j => slotsFix_get h j

section
variable {P : Program} {g : Gl} {B : Nat} {S : Nat → Prop} {n : Nat} {fl : Fl} {w : World} {gs : List G1} {om : Nat → Option (Nat × Bool)} {s : Nat → AV} {objs : List Obj} {Q : Qt} {ops : Array Oper}

theorem noSn_flat {xs : List D} (h : xs.all D.noSn = true) : (flat xs).all D.noSn = true := by
 rw [List.all_eq_true] at h ⊢
 intro c hc
 obtain ⟨x, hx, hc⟩ := List.mem_flatMap.1 hc
 have := h x hx
 cases x with
 | agg cs => rw [noSn_agg] at this; exact List.all_eq_true.1 this c hc
 | _ => simp [D.cells] at hc; subst hc; exact this

theorem noSn_set {xs : List D} (h : xs.all D.noSn = true) {i : Nat} {v : Value} : (xs.set i (.v v)).all D.noSn = true := by
 rw [List.all_eq_true] at h ⊢
 intro x hx
 rcases List.mem_or_eq_of_mem_set hx with hx | rfl
 · exact h x hx
 · exact noSn_v _

theorem RelO.refix {r o} {om' : Nat → Option (Nat × Bool)} {gs' : List G1} (hg : gs <+: gs') (ho : RelO B w S gs om r o) (hf : o.fix = true) (hk : ∀ b c, om b = some (r, c) → om' b = some (r, c)) : RelO B w S gs' om' r o := by
 induction ho with
 | var h1 hb hB ho hw hv => exact .var (gs_get hg h1) hb hB (hk _ _ ho) hw (RelVs.refix (fun _ _ => rfl) hg hv (by simpa [Obj.fix] using hf))
 | row0 h1 hk hb => exact .row0 (gs_get hg h1) hk hb
 | row h1 hgk hb hB ho hw hc hn hk' hvs hv hF hFo =>
  exact .row (gs_get hg h1) hgk hb hB (hk _ _ ho) hw hc hn hk' hvs (RelL.weakN hv (noSn_flat (by simpa [Obj.fix] using hf))) hF (fun b hb => ⟨(hFo b hb).1, (hFo b hb).2.1, hk _ _ (hFo b hb).2.2⟩)
 | hole _ hi hne hv ih => exact .hole (ih (by simp only [Obj.fix] at hf ⊢; exact noSn_set hf)) hi hne (RelV.refix (fun _ _ => rfl) hg hv rfl)
 | it h1 hb hB ho hw => exact .it (gs_get hg h1) hb hB (hk _ _ ho) hw
 | lp h1 hb hB ho hw hs hv => exact .lp (gs_get hg h1) hb hB (hk _ _ ho) hw hs (fun p hp => RelV.refix (fun _ _ => rfl) hg (hv p hp) (List.all_eq_true.1 (by simpa only [Obj.fix] using hf) p hp))
 | blk h1 hb hB ho hw => exact .blk (gs_get hg h1) hb hB (hk _ _ ho) hw
 | nest0 h1 hk' hb => exact .nest0 (gs_get hg h1) hk' hb
 | nest h1 hgk hb hB ho hw hc hn hvs hv hF hFo =>
  exact .nest (gs_get hg h1) hgk hb hB (hk _ _ ho) hw hc hn hvs hv hF (fun b hb => ⟨(hFo b hb).1, (hFo b hb).2.1, hk _ _ (hFo b hb).2.2⟩)
 | nhole _ hi hne hv ih => exact .nhole (ih rfl) hi hne (RelV.refix (fun _ _ => rfl) hg hv rfl)
 | grow0 h1 hk' hb hz => exact .grow0 (gs_get hg h1) hk' hb hz
 | grow h1 hgk hb hB ho hw hc hgc hn hvs => exact .grow (gs_get hg h1) hgk hb hB (hk _ _ ho) hw hc hgc hn hvs
 | dead => exact .dead

theorem row_split {N : Nat → Prop} {xs : List D} {vs F} {i : Nat} {x : D} (hk : ∀ x ∈ xs, Fits 1 x) (hx : xs[i]? = some x) (h : RelL w S N (flat xs) vs F) :
    ∃ vs1 v vs2 F1 Fx F2, vs = vs1 ++ v :: vs2 ∧ F = F1 ++ (Fx ++ F2) ∧ RelL w S N (flat (xs.take i)) vs1 F1 ∧ RelL w S N x.cells [v] Fx ∧ RelL w S N (flat (xs.drop (i + 1))) vs2 F2 := by
 have hi : i < xs.length := (List.getElem?_eq_some_iff.1 hx).1
 have hxe : xs[i] = x := (List.getElem?_eq_some_iff.1 hx).2
 have e : xs = xs.take i ++ x :: xs.drop (i + 1) := by rw [← hxe]; simp
 have e2 : flat xs = flat (xs.take i) ++ (x.cells ++ flat (xs.drop (i + 1))) := by
  conv => lhs; rw [e]
  simp [flat]
 rw [e2] at h
 obtain ⟨F1, F2, rfl, h1, h2⟩ := h.split
 obtain ⟨F3, F4, rfl, h3, h4⟩ := h2.split
 have hc1 : x.cells.length = 1 := (hk x (List.mem_of_getElem? hx)).1
 have hl3 := h3.length
 rw [hc1] at hl3 h3 h4
 obtain ⟨v, hv⟩ := List.length_eq_one_iff.1 hl3.symm
 rw [hv] at h3
 refine ⟨_, v, _, F1, F3, F4, ?_, rfl, h1, h3, h4⟩
 have a1 := List.take_append_drop (flat (xs.take i)).length vs
 have a2 := List.take_append_drop 1 (vs.drop (flat (xs.take i)).length)
 rw [hv] at a2
 conv => lhs; rw [← a1, ← a2]
 simp

theorem flat_set1 {xs : List D} {i : Nat} {x : D} (hi : i < xs.length) : flat (xs.set i x) = flat (xs.take i) ++ (x.cells ++ flat (xs.drop (i + 1))) := by
 rw [List.set_eq_take_append_cons_drop, if_pos hi]
 simp [flat]

theorem slice_cell {N : Nat → Prop} {m k ys v F} (h : RelD w S N (.row m k ys) v F) : v.oneCell' = true := by cases h <;> rfl

theorem fits_set {xs : List D} (hk : ∀ x ∈ xs, Fits 1 x) {i : Nat} {x : D} (hc : x.isCell = true) : ∀ y ∈ xs.set i x, Fits 1 y := by
 intro y hy
 rcases List.mem_or_eq_of_mem_set hy with hy | rfl
 · exact hk y hy
 · cases y <;> simp [D.isCell] at hc <;> exact ⟨rfl, by simp [D.cells, D.isCell]⟩

theorem Weak.open {L : List (Nat × AV)} (r i : Nat) {k : Nat} {xs ys : List D} (hkeep : fl.keep = false) (hr : objs[r]? = some (.row 1 xs)) (hx : xs[i]? = some (.row .own k ys)) (hs : slotsFix L = true) (hf : objsFix objs = true) {len : Nat} (hlen : len = ys.length) :
    Weak B S n fl (slots L) objs (slots L) (objs.set r (.hole i objs.length len xs) ++ [.row k ys]) := fun w a gs om hM hF hlen0 => by
 subst hlen
 have hi : i < xs.length := (List.getElem?_eq_some_iff.1 hx).1
 have hrl : r < objs.length := (List.getElem?_eq_some_iff.1 hr).1
 have hfr := objsFix_get hf hr
 simp only [Obj.fix] at hfr
 have hxn : (D.row .own k ys).noSn = true := List.all_eq_true.1 hfr _ (List.mem_of_getElem? hx)
 have hyn : ys.all D.noSn = true := by rw [noSn_row] at hxn; simp at hxn; simpa using hxn
 cases hM.obj r _ hr with
 | row0 => simp at hx
 | @row T _ _ g' b cur vs F hg hgk hb hB ho hw hc hn hk hvs hl hFn hFo =>
  obtain ⟨vs1, v, vs2, F1, Fx, F2, e1, e2, h1, h2, h3⟩ := row_split hk hx hl
  subst e2
  have h2 : RelD w S (Inner B w om) (.row .own k ys) v Fx := by
   simp only [D.cells] at h2
   generalize hq : Fx = Fy at h2
   cases h2 with | @cons _ _ F0 _ _ G0 a t => cases t; simpa [hq] using a
  have hone := slice_cell h2
  -- the marks
  obtain ⟨om', gn, hgn, hmk, hrow, hhdr⟩ : ∃ (om' : Nat → Option (Nat × Bool)) (gn : G1), True ∧ (∀ x, om' x = om x ∨ (x ∈ Fx ∧ om x = some (r, false))) ∧
      (∀ om2, om2 = om' → RelO B w S (gs ++ [gn]) om2 objs.length (.row k ys)) ∧ (∀ N, RelV w S N (gs ++ [gn]) (.hdr objs.length 0 ys.length) v) := by
   cases h2 with
   | nil => exact ⟨om, ⟨none, k, 0⟩, trivial, fun x => .inl rfl, fun om2 _ => .row0 (gs_new _ _ hM.len) rfl rfl, fun N => .hdr0 (gs_new _ _ hM.len) rfl⟩
   | empty hm => exact absurd rfl hm
   | old hm => exact absurd rfl hm
   | @own _ _ b' c cur' T' vs' F' hb' hc' hn' hm' hk' hvs' h' =>
    have hin : ∀ x ∈ b' :: F', B ≤ x ∧ x < w.heap.size ∧ om x = some (r, false) := fun x hx => hFo x (by simp at hx ⊢; rcases hx with hx | hx <;> simp [hx])
    have hnd : (b' :: F').Nodup := by
     have := hFn
     simp only [List.nodup_append] at this
     exact this.2.1.1
    refine ⟨mark (mark om F' (objs.length, false)) [b'] (objs.length, true), ⟨some b', k, c * k⟩, trivial, fun x => ?_, ?_, fun N => ?_⟩
    · by_cases hx1 : x ∈ b' :: F'
      · exact .inr ⟨hx1, (hin x hx1).2.2⟩
      · left
        rw [mark_out (by simp at hx1 ⊢; exact hx1.1), mark_out (by simp at hx1; exact hx1.2)]
    · rintro om2 rfl
      refine .row (F := F') (gs_new _ _ hM.len) rfl rfl (hin b' (by simp)).1 (mark_in (by simp)) hb' hc' (Nat.mul_le_mul_right _ hn') hk' hvs' (RelL.weakN h' (noSn_flat hyn)) (List.nodup_cons.1 hnd).2 fun x hx => ⟨(hin x (by simp [hx])).1, (hin x (by simp [hx])).2.1, ?_⟩
      rw [mark_out (by simp; rintro rfl; exact (List.nodup_cons.1 hnd).1 hx), mark_in hx]
    · exact .hdr (gs_new _ _ hM.len) rfl (by simp) (.inl (by simp)) hn' hm'
  have hpre : gs <+: gs ++ [gn] := List.prefix_append _ _
  have hoth : ∀ (r1 : Nat), r1 ≠ r → ∀ b c, om b = some (r1, c) → om' b = some (r1, c) := fun r1 hne b c hb => by
   rcases hmk b with e | ⟨_, e⟩
   · rw [e]; exact hb
   · rw [hb] at e; simp at e; exact absurd e.1 hne
  have hom' : ∀ x, x ∉ Fx → om' x = om x := fun x hx => (hmk x).resolve_right (fun h => hx h.1)
  have hdis : ∀ x ∈ F1 ++ ([] ++ F2), x ∉ Fx := by
   intro x hx hx2
   simp only [List.nodup_append, List.mem_append] at hFn
   simp at hx
   rcases hx with hx | hx
   · exact hFn.2.2 x hx x (.inl hx2) rfl
   · exact hFn.2.1.2.2 x hx2 x hx rfl
  have hbx : b ∉ Fx := fun hx => by have := (hFo b (by simp [hx])).2.2; rw [ho] at this; simp at this
  refine ⟨gs ++ [gn], om', ⟨by simp [hM.len], fun r1 o1 h1' => ?_, hM.hS, hM.hB⟩, ⟨hF.size, hF.defers, fun j => RelV.refix (fun _ _ => rfl) hpre (hF.rel j) (slotsFix_get hs j)⟩, ⟨(List.take_prefix _ _).trans hpre, .refl _ _, fun hk => by rw [hkeep] at hk; cases hk⟩⟩
  rcases get_append_one _ _ _ _ h1' with h1' | ⟨rfl, rfl⟩
  · rcases get_set h1' with ⟨rfl, rfl⟩ | ⟨hne, h1'⟩
    · refine .hole (v := v) ?_ hi (by omega) (hhdr _)
      refine .row (F := F1 ++ ([] ++ F2)) (gs_get hpre hg) hgk hb hB (by rw [hom' _ hbx]; exact ho) hw hc (by simpa using hn) (fits_set hk rfl) rfl ?_ ?_ ?_
      · rw [List.length_set, ← hvs, e1, flat_set1 hi]
        have := (RelL.append h1 (RelL.append (RelL.cons (.v hone) .nil) h3))
        have hall : (flat (xs.take i) ++ ((D.v v).cells ++ flat (xs.drop (i + 1)))).all D.noSn = true := by
         have := noSn_flat (noSn_set hfr (i := i) (v := v))
         rwa [flat_set1 hi] at this
        exact RelL.weakN (by simpa [D.cells] using this) hall
      · have := hFn
        simp only [List.nodup_append, List.nil_append, List.mem_append] at this ⊢
        exact ⟨this.1, this.2.1.2.1, fun x hx y hy => this.2.2 x hx y (.inr hy)⟩
      · intro x hx
        have hm : x ∈ F1 ++ (Fx ++ F2) := by simp at hx ⊢; rcases hx with hx | hx <;> simp [hx]
        exact ⟨(hFo x hm).1, (hFo x hm).2.1, by rw [hom' _ (hdis x hx)]; exact (hFo x hm).2.2⟩
    · exact RelO.refix hpre (hM.obj r1 o1 h1') (objsFix_get hf h1') (hoth r1 hne)
  · have hlen' : (objs.set r (.hole i objs.length ys.length xs)).length = objs.length := by simp
    rw [hlen']
    exact hrow _ rfl

theorem Weak.close (r : Nat) {i r' len k : Nat} {xs ys : List D} (hr : objs[r]? = some (.hole i r' len xs)) (hr' : objs[r']? = some (.row k ys)) (hl : len = ys.length) :
    Weak B S n fl s objs s ((objs.set r (.row 1 (xs.set i (.row .own k ys)))).set r' .dead) := fun w a gs om hM hF hlen => by
 subst hl
 cases hM.obj r _ hr with
 | @hole _ _ _ _ v ho hi hne hv =>
  obtain ⟨G, hd, ht⟩ := hM.rowD hr' hv
  have hGo : ∀ b ∈ G, om b ≠ some (r, false) ∧ om b ≠ some (r, true) ∧ ∃ c, om b = some (r', c) := fun b hb => by
   obtain ⟨_, _, r1, c, h1, ⟨k1, xs1, h2⟩, h3⟩ := ht.src b hb
   have e : r1 = r' := by
    rcases Nat.decEq r1 r' with h | h
    · rw [List.getElem?_set_ne (fun e => h e.symm)] at h3; rw [h2] at h3; simp at h3
    · exact h
   subst e
   exact ⟨by rw [h1]; simp; intro h; exact absurd h hne, by rw [h1]; simp; intro h; exact absurd h hne, c, h1⟩
  have e : Ext B w gs om w gs (mark om G (r, false)) := ⟨List.prefix_rfl, .refl _ _, fun x ⟨h1, h2, h3⟩ => ⟨⟨h1, h2, fun r1 => by
    by_cases hx : x ∈ G
    · rw [mark_in hx]; simp
    · rw [mark_out hx]; exact h3 r1⟩, rfl⟩⟩
  have hrl : r < objs.length := (List.getElem?_eq_some_iff.1 hr).1
  generalize hq : xs.set i (.v v) = xs1 at ho
  cases ho with
  | row0 => exfalso; have := congrArg List.length hq; simp at this; subst this; simp at hi
  | @row T _ _ g' b cur vs F hg hgk hb hB ho hw hc hn hk hvs hl hFn hFo =>
   have hi1 : i < xs1.length := by rw [← hq]; simpa using hi
   have hx1 : xs1[i]? = some (.v v) := by rw [← hq]; simp [hi]
   obtain ⟨vs1, u, vs2, F1, Fx, F2, e1, e2, h1, h2, h3⟩ := row_split hk hx1 hl
   obtain ⟨rfl, rfl⟩ : u = v ∧ Fx = [] := by
    simp only [D.cells] at h2
    generalize hz : Fx = Fy at h2
    cases h2 with | cons a t => cases t; cases a; exact ⟨rfl, rfl⟩
   subst e2
   have hlx : xs1.length = xs.length := by rw [← hq]; simp
   refine ⟨gs, mark om G (r, false), hM.step e (by simp [hM.len]) fun r1 o1 h1' => ?_, ⟨hF.size, hF.defers, fun j => hM.relV e (hF.rel j)⟩, e.ofFull⟩
   rcases get_set h1' with ⟨rfl, rfl⟩ | ⟨hne1, h1'⟩
   · exact .inr .dead
   rcases get_set h1' with ⟨rfl, rfl⟩ | ⟨hne2, h1'⟩
   · right
     have hgd : ∀ x ∈ G, x ∉ F1 ++ ([] ++ F2) := fun x hx hx2 => (hGo x hx).1 ((hFo x hx2).2.2)
     have hbG : b ∉ G := fun hb => (hGo b hb).2.1 ho
     refine .row (F := F1 ++ (G ++ F2)) hg hgk hb hB (by rw [mark_out hbG]; exact ho) hw hc (by simpa [hlx] using hn) ?_ rfl ?_ ?_ ?_
     · have : xs.set i (.row .own k ys) = xs1.set i (.row .own k ys) := by rw [← hq]; simp
       rw [this]; exact fits_set hk rfl
     · have : xs.set i (.row .own k ys) = xs1.set i (.row .own k ys) := by rw [← hq]; simp
       rw [this, List.length_set, ← hvs, e1, flat_set1 hi1]
       have := RelL.append h1 (RelL.append (RelL.cons hd .nil) h3)
       exact hM.relL e (by simpa [D.cells] using this) (fun _ _ => rfl)
     · have := hFn
       have hGn := ht.nodup
       simp only [List.nodup_append, List.nil_append, List.mem_append] at this ⊢
       refine ⟨this.1, ⟨hGn, this.2.1, fun x hx y hy e => hgd x hx (by subst e; simp [hy])⟩, fun x hx y hy e => ?_⟩
       subst e
       rcases hy with hy | hy
       · exact hgd x hy (by simp [hx])
       · exact this.2.2 x hx x hy rfl
     · intro x hx
       by_cases hxG : x ∈ G
       · obtain ⟨q1, q2, _⟩ := ht.src x hxG
         exact ⟨q1, q2, mark_in hxG⟩
       · have hm : x ∈ F1 ++ ([] ++ F2) := by simp at hx ⊢; rcases hx with hx | hx | hx <;> simp_all
         exact ⟨(hFo x hm).1, (hFo x hm).2.1, by rw [mark_out hxG]; exact (hFo x hm).2.2⟩
   · left
     refine ⟨h1', fun b c hbc _ => ⟨?_, rfl⟩⟩
     by_cases hx : b ∈ G
     · obtain ⟨_, _, c', h⟩ := hGo b hx; rw [hbc] at h; simp at h; exact absurd h.1 hne1
     · rw [mark_out hx]; exact hbc

end
attribute [simp] objsFix slotsFix
@[simp] theorem fix_var {T cs} : Obj.fix (.var T cs) = AV.fixs cs := rfl
@[simp] theorem fix_row {k xs} : Obj.fix (.row k xs) = xs.all D.noSn := rfl
@[simp] theorem fix_it {s p} : Obj.fix (.it s p) = true := rfl
@[simp] theorem fix_lp {l c L st p} : Obj.fix (.lp l c L st p) = L.all fun p => p.2.fix := rfl
@[simp] theorem fix_nest {L} : Obj.fix (.nest L) = true := rfl
@[simp] theorem fix_nhole {i r' l L} : Obj.fix (.nhole i r' l L) = true := rfl
@[simp] theorem fix_grow {c zs} : Obj.fix (.grow c zs) = true := rfl
@[simp] theorem fix_blk {b} : Obj.fix (.blk b) = true := rfl
@[simp] theorem fix_hole {i r' l xs} : Obj.fix (.hole i r' l xs) = xs.all D.noSn := rfl
@[simp] theorem fix_dead : Obj.fix .dead = true := rfl
end Go.Awp

/- Rows that lie inside what the call owns; nil slices as objects. Lemmas alone. -/
namespace Go.Awp
open Go.RowKit Go.Lib
section
variable {α : Type}
def snR (k : Nat) (f : α → D) (l : List α) : D := .row .sn k (l.map f)
@[simp] theorem snap_ownR {k : Nat} {f : α → D} {l : List α} : (ownR k f l).snap = snR k (fun x => (f x).snap) l := by
 unfold ownR snR; rw [snap_row, List.map_map]; rfl
@[simp] theorem snap_rows {k : Nat} {f : α → D} {l : List α} : (rows k f l).snap = rows k (fun x => (f x).snap) l := by
 unfold rows; rw [snap_row, List.map_map]; rfl
@[simp] theorem roed_snR {k : Nat} {f : α → D} {l : List α} : (snR k f l).roed = rows k (fun x => (f x).roed) l := by
 unfold snR rows; rw [roed_row, List.map_map]; rfl
@[simp] theorem roed_ownR {k : Nat} {f : α → D} {l : List α} : (ownR k f l).roed = rows k (fun x => (f x).roed) l := by
 unfold ownR rows; rw [roed_row, List.map_map]; rfl
@[simp high] theorem cells_snR {k : Nat} {f : α → D} {l : List α} : (snR k f l).cells = [snR k f l] := rfl
@[simp high] theorem cells_ownR {k : Nat} {f : α → D} {l : List α} : (ownR k f l).cells = [ownR k f l] := rfl
@[simp] theorem isCell_snR {k : Nat} {f : α → D} {l : List α} : AV.isCell (.d (snR k f l)) = true := rfl
@[simp] theorem rowNil_snR {q} {k : Nat} {f : α → D} {l : List α} : rowNil q (snR k f l) = snR k f l := by unfold rowNil snR; cases q <;> rfl
@[simp high] theorem len_snR {P : Program} {objs : List Obj} {t : TypeId} {k : Nat} {f : α → D} {l : List α} : builtinA P objs .len [t] [.d (snR k f l)] = (match ty P t with
    | some T => match T.k with
      | .slice _ => some (.int .i64 l.length, objs)
      | _ => none
    | none => none) := by
 unfold snR builtinA
 simp only [lenA]
 cases ty P t with
 | none => rfl
 | some T =>
  simp only
  cases T.k <;> simp
@[simp high] theorem index_snR [Inhabited α] {P : Program} {objs : List Obj} {t : TypeId} {k : Nat} {f : α → D} {l : List α} {i : Int} : indexAddrA P objs t (.d (snR k f l)) i = (match ty P t with
    | some { k := .slice e, .. } => match ty P e with
      | some T => if k = T.size ∧ 0 ≤ i ∧ i < l.length then some (.rp (f (nth l i.toNat)).cells 0) else none
      | none => none
    | _ => none) := by
 unfold snR indexAddrA
 cases ty P t with
 | none => rfl
 | some T =>
  obtain ⟨sz, by', K, z⟩ := T
  cases K with
  | slice e =>
   simp only
   cases ty P e with
   | none => rfl
   | some T =>
    simp only [List.length_map]
    split
    · rename_i hc; rw [map_get (by omega)]; rfl
    · rfl
  | array m e => simp only; cases ty P e <;> rfl
  | _ => rfl
@[simp high] theorem slice_snR {P : Program} {objs : List Obj} {t : TypeId} {k : Nat} {f : α → D} {l : List α} {lo hi : Option Int} : sliceA P objs t (.d (snR k f l)) lo hi none = (match ty P t with
    | some { k := .slice e, .. } => match ty P e with
      | some T => if k = T.size ∧ 0 ≤ lo.getD 0 ∧ lo.getD 0 ≤ hi.getD l.length ∧ hi.getD l.length ≤ l.length then some (.d (snR k f ((l.drop (lo.getD 0).toNat).take ((hi.getD l.length).toNat - (lo.getD 0).toNat)))) else none
      | none => none
    | _ => none) := by
 unfold snR sliceA
 cases ty P t with
 | none => rfl
 | some T =>
  obtain ⟨sz, by', K, z⟩ := T
  cases K with
  | slice e =>
   simp only
   cases ty P e with
   | none => rfl
   | some T => simp only [List.length_map, List.map_take, List.map_drop]
  | _ => rfl
@[simp] theorem noOwn_snR {k : Nat} {f : α → D} {l : List α} (h : ∀ x, (f x).noOwn = true) : (snR k f l).noOwn = true := by
 unfold snR; rw [noOwn_row]; simp [h]
@[simp] theorem noOwn_rows {k : Nat} {f : α → D} {l : List α} (h : ∀ x, (f x).noOwn = true) : (rows k f l).noOwn = true := by
 unfold rows; rw [noOwn_row]; simp [h]
@[simp] theorem noSn_rows {k : Nat} {f : α → D} {l : List α} (h : ∀ x, (f x).noSn = true) : (rows k f l).noSn = true := by
 unfold rows; rw [noSn_row]; simp [h]
@[simp] theorem srcA_snR {objs : List Obj} {k : Nat} {f : α → D} {l : List α} : srcA objs (.d (snR k f l)) = some (k, l.map f, objs) := by unfold snR srcA; rfl
@[simp] theorem srcA_rows {objs : List Obj} {k : Nat} {f : α → D} {l : List α} : srcA objs (.d (rows k f l)) = some (k, l.map f, objs) := by unfold rows srcA; rfl
@[simp] theorem elemsOf_snR {objs : List Obj} {k : Nat} {f : α → D} {l : List α} : elemsOf objs (.d (snR k f l)) = some (k, l.map f) := by unfold snR elemsOf; rfl
@[simp] theorem elemsOf_rows {objs : List Obj} {k : Nat} {f : α → D} {l : List α} : elemsOf objs (.d (rows k f l)) = some (k, l.map f) := by unfold rows elemsOf; rfl
@[simp] theorem take_map_len {β : Type} {f : α → β} {l : List α} : (l.map f).take l.length = l.map f := by rw [← List.map_take]; simp
@[simp] theorem slice_hdr {P : Program} {objs : List Obj} {t : TypeId} {r off len : Nat} {lo hi : Option Int} : sliceA P objs t (.hdr r off len) lo hi none = (match ty P t with
    | some { k := .slice e, .. } => match ty P e with
      | some T => match objs[r]? with
        | some (.row k xs) => if k = T.size ∧ 0 ≤ lo.getD 0 ∧ lo.getD 0 ≤ hi.getD len ∧ (hi.getD len ≤ len ∨ 0 < k ∧ off + hi.getD len ≤ xs.length) then some (.hdr r (off + (lo.getD 0).toNat) ((hi.getD len).toNat - (lo.getD 0).toNat)) else none
        | some (.grow c _) => if 1 = T.size ∧ off = 0 ∧ lo.getD 0 = 0 ∧ 0 ≤ hi.getD len ∧ hi.getD len ≤ c then some (.hdr r 0 (hi.getD len).toNat) else none
        | _ => none
      | none => none
    | _ => none) := by
 unfold sliceA
 cases ty P t with
 | none => rfl
 | some T =>
  obtain ⟨sz, by', K, z⟩ := T
  cases K with
  | slice e =>
   simp only
   cases ty P e with
   | none => rfl
   | some T =>
    simp only
    cases objs[r]? with
    | none => rfl
    | some o => cases o <;> simp
  | _ => rfl
theorem copySrc_of {objs : List Obj} {y : AV} {k ys o1} (hs : ∀ s, y ≠ .d (.v (.string s))) (h : srcA objs y = some (k, ys, o1)) (hn : ys.all D.noOwn = true) : copySrc objs y = some (k, ys) := by
 unfold copySrc
 split
 · exact absurd rfl (hs _)
 · simp [h]; simpa using hn
@[simp] theorem copySrc_snR {objs : List Obj} {k : Nat} {f : α → D} {l : List α} (h : ∀ x, (f x).noOwn = true) : copySrc objs (.d (snR k f l)) = some (k, l.map f) :=
 copySrc_of (o1 := objs) (by unfold snR; simp) srcA_snR (by simp [h])
@[simp] theorem copySrc_rows {objs : List Obj} {k : Nat} {f : α → D} {l : List α} (h : ∀ x, (f x).noOwn = true) : copySrc objs (.d (rows k f l)) = some (k, l.map f) :=
 copySrc_of (o1 := objs) (by unfold rows; simp) srcA_rows (by simp [h])
@[simp] theorem nrmK_none {d : D} : nrmK none d = d := rfl
@[simp] theorem nrm_row {o : D} {m k xs} : nrm o (.row m k xs) = .row m k xs := by cases o <;> rfl
@[simp] theorem nrm_ownR {k : Nat} {f : α → D} {l : List α} {o : D} : nrm o (ownR k f l) = ownR k f l := by cases o <;> rfl
@[simp] theorem nrm_nilR {k : Nat} {f : α → D} {l : List α} : nrm (ownR k f l) (.v (.slice none 0 0)) = .row .own k [] := rfl
@[simp] theorem nrm_nilRow {m k xs} : nrm (.row m k xs) (.v (.slice none 0 0)) = .row .own k [] := rfl
end

section
variable {P : Program} {g : Gl} {B : Nat} {S : Nat → Prop} {n : Nat} {fl : Fl} {w : World} {gs : List G1} {om : Nat → Option (Nat × Bool)} {s : Nat → AV} {objs : List Obj} {Q : Qt} {ops : Array Oper}

theorem Weak.pad : Weak B S n fl s objs s (objs ++ [.dead]) := fun w a gs om hM hF hlen =>
 have h := hM.push (g := ⟨none, 0, 0⟩) (om' := om) (Below.refl _ _) (fun _ _ => rfl) .dead
 ⟨_, om, h.2, ⟨hF.size, hF.defers, fun j => hM.relV h.1 (hF.rel j)⟩, h.1.ofFull⟩

theorem then_weak {c : Code} {s2 objs2} (hw : Weak B S n fl s objs s2 objs2) (h : Then P g B S n fl c Q .normal s2 objs2) : Then P g B S n fl c Q .normal s objs := fun _ a w gs om h1 h2 h3 h4 h5 => by
 obtain ⟨gs2, om2, m, f, x⟩ := hw w a gs om h3 h4 h5
 have hl : fl.n ≤ gs.length := by rw [h3.len]; exact h5
 have hl2 : fl.n ≤ objs2.length := by rw [← m.len]; exact x.len hl
 exact wp_mono (h hl2 a w gs2 om2 h1 h2 m f hl2) fun e a w' h => h.trans x hl

theorem Weak.nilRow (t k : Nat) {L : List (Nat × AV)} (ht : slots L t = .d (.v (.slice none 0 0))) : Weak B S n fl (slots L) objs (slots ((t, .hdr objs.length 0 0) :: L)) (objs ++ [.row k []]) := fun w a gs om hM hF hlen => by
 have h := hM.push_nil 0 k
 refine ⟨_, om, h.2, ⟨hF.size, hF.defers, fun j => ?_⟩, h.1.ofFull⟩
 simp only [slots]
 split
 · rename_i e
   subst e
   have hr := hF.rel j
   rw [ht] at hr
   cases hr with
   | d hr =>
    generalize a.tmps.getD j undef = v at hr
    cases hr
    exact .hdr0 (gs_new _ _ hM.len) rfl
 · exact hM.relV h.1 (hF.rel j)
end
attribute [simp] snap_v snap_agg snap_tup noOwn_v noOwn_agg noOwn_tup
end Go.Awp

/- A region that draws its order, two of whose operations do not commute in the abstract: both orders are walked. Lemmas alone. -/
namespace Go.Awp
open Go.RowKit Go.Lib
section
variable {P : Program} {g : Gl} {B : Nat} {S : Nat → Prop} {n : Nat} {fl : Fl} {w : World} {gs : List G1} {om : Nat → Option (Nat × Bool)} {s : Nat → AV} {objs : List Obj} {Q : Qt} {ops : Array Oper} {hard : List Nat}

def pairsOk2 (ops : Array Oper) (hard : List Nat) (conf : List (Nat × Nat)) (d : Nat) : List Nat → Bool
 | [] => true
 | i :: l => (predsOf ops i).all (fun j => decide (j < ops.size) && !(i :: l).contains j) && l.all (fun j => soft ops hard i j || (ancs ops d j).contains i || conf.contains (i, j)) && pairsOk2 ops hard conf d l

def okOrder2 (ops : Array Oper) (hard : List Nat) (conf : List (Nat × Nat)) (d : Nat) (o : List Nat) : Bool :=
 decide (o.length = ops.size) && decide o.Nodup && (List.range ops.size).all (fun i => o.contains i) && o.all (fun i => decide (i < ops.size)) && pairsOk2 ops hard conf d o

theorem pairsOk2_mem {conf : List (Nat × Nat)} {d : Nat} {pre : List Nat} {i : Nat} {post : List Nat} (h : pairsOk2 ops hard conf d (pre ++ i :: post) = true) : ∀ x ∈ pre, soft ops hard x i = true ∨ x ∈ ancs ops d i ∨ (x, i) ∈ conf := by
 induction pre with
 | nil => simp
 | cons y pre ih =>
  simp only [List.cons_append, pairsOk2, Bool.and_eq_true, List.all_eq_true] at h
  intro x hx
  rcases List.mem_cons.1 hx with rfl | hx
  · have := h.1.2 i (by simp)
    simp only [Bool.or_eq_true, List.contains_iff_mem] at this
    rcases this with (h | h) | h
    · exact .inl h
    · exact .inr (.inl h)
    · exact .inr (.inr h)
  · exact ih h.2 x hx

theorem pairsOk2_del {conf : List (Nat × Nat)} {d : Nat} {pre : List Nat} {i : Nat} {post : List Nat} (h : pairsOk2 ops hard conf d (pre ++ i :: post) = true) : pairsOk2 ops hard conf d (pre ++ post) = true := by
 induction pre with
 | nil => simp only [List.nil_append, pairsOk2, Bool.and_eq_true] at h; exact h.2
 | cons y pre ih =>
  simp only [List.cons_append, pairsOk2, Bool.and_eq_true, List.all_eq_true] at h ⊢
  refine ⟨⟨fun j hj => ?_, fun j hj => h.1.2 j (by simp at hj ⊢; rcases hj with hj | hj <;> simp [hj])⟩, ih h.2⟩
  have := h.1.1 j hj
  simp only [decide_eq_true_eq] at this ⊢
  refine ⟨this.1, ?_⟩
  have h2 := this.2
  simp at h2 ⊢
  exact ⟨h2.1, h2.2.1, h2.2.2.2⟩

def confOk (conf : List (Nat × Nat)) (rest L : List Nat) : Prop := ∀ x y, (x, y) ∈ conf → x ∈ rest → y ∈ rest → ¬ L.idxOf y < L.idxOf x

theorem tr_linear2 {conf : List (Nat × Nat)} {d : Nat} : ∀ (fuel t : Nat) (listed : Array Bool) (rest : List Nat) (s : Nat → AV) (objs : List Obj) (s' : Nat → AV) (objs' : List Obj), rest.length = fuel → listed.size = ops.size → rest.Nodup → (∀ i ∈ rest, i < ops.size) →
    (∀ i, i < ops.size → (listed.getD i true = false ↔ i ∈ rest)) → (∀ i, i < ops.size → listed.getD i true = true → ∀ j ∈ predsOf ops i, j < ops.size ∧ listed.getD j true = true) → pairsOk2 ops hard conf d rest = true →
    confOk conf rest (Region.linearise.go .any ops fuel t listed []) →
    Tr P g n ops hard rest s objs s' objs' → Tr P g n ops hard (Region.linearise.go .any ops fuel t listed []) s objs s' objs' := by
 intro fuel
 induction fuel with
 | zero =>
  intro t listed rest s objs s' objs' hl _ _ _ _ _ _ _ h
  obtain rfl := List.length_eq_zero_iff.1 hl
  simpa [Region.linearise.go] using h
 | succ fuel ih =>
  intro t listed rest s objs s' objs' hl hsz hnd hin hmem hdown hp hconf h
  have same : ∀ j, j < ops.size → listed.getD j false = listed.getD j true := fun j hj => by simp [Array.getD_eq_getD_getElem?, hsz, hj]
  have hready : ∀ i ∈ Region.ready .any ops listed, i ∈ rest ∧ ∀ j ∈ predsOf ops i, j < ops.size ∧ listed.getD j true = true := by
   intro i hi
   obtain ⟨h1, o, ho, h2⟩ := mem_ready.1 hi
   have hlt : i < ops.size := (Array.getElem?_eq_some_iff.1 ho).1
   refine ⟨(hmem i hlt).1 h1, fun j hj => ?_⟩
   simp only [predsOf, ho, List.mem_map, List.mem_filter] at hj
   obtain ⟨e, ⟨he, hb⟩, rfl⟩ := hj
   have := h2 e (by simpa using he) hb
   have hj : e.on < ops.size := by
    rcases Nat.lt_or_ge e.on ops.size with q | q
    · exact q
    · rw [Array.getD_eq_getD_getElem?, Array.getElem?_eq_none (by omega)] at this; simp at this
   exact ⟨hj, by rw [← same _ hj]; exact this⟩
  have hne : Region.ready .any ops listed ≠ [] := by
   cases rest with
   | nil => simp at hl
   | cons x rest =>
    have hx := hin x (by simp)
    have : x ∈ Region.ready .any ops listed := by
     refine mem_ready.2 ⟨(hmem x hx).2 (by simp), ops[x], by simp [hx], fun e he hb => ?_⟩
     simp only [pairsOk2, Bool.and_eq_true, List.all_eq_true] at hp
     have := hp.1.1 e.on (by simp only [predsOf, List.mem_map, List.mem_filter]; rw [show ops[x]? = some ops[x] by simp [hx]]; simp only [List.mem_map, List.mem_filter]; exact ⟨e, ⟨by simpa using he, hb⟩, rfl⟩)
     simp only [decide_eq_true_eq] at this
     rw [same _ this.1]
     cases hq : listed.getD e.on true with
     | true => rfl
     | false =>
      have h1 := (hmem _ this.1).1 hq
      have h2 := this.2
      simp at h1 h2
      rcases h1 with h1 | h1
      · exact absurd h1 h2.1
      · exact absurd h1 h2.2
    exact fun e => by rw [e] at this; simp at this
  have hpos : 0 < (Region.ready .any ops listed).length := List.length_pos_iff.2 hne
  obtain ⟨i, hi⟩ : ∃ i, (Region.ready .any ops listed)[t % (Region.ready .any ops listed).length]? = some i := ⟨_, List.getElem?_eq_getElem (Nat.mod_lt _ hpos)⟩
  have hL : Region.linearise.go .any ops (fuel + 1) t listed [] = i :: Region.linearise.go .any ops fuel (t / (Region.ready .any ops listed).length) (listed.setIfInBounds i true) [] := by
   simp only [Region.linearise.go]
   change (match (Region.ready .any ops listed)[t % (Region.ready .any ops listed).length]? with
     | some i => Region.linearise.go .any ops fuel (t / (Region.ready .any ops listed).length) (listed.setIfInBounds i true) [i]
     | none => [].reverse) = _
   rw [hi]
   simp only
   rw [linearise_go_acc, List.reverse_singleton, List.singleton_append]
  rw [hL] at hconf ⊢
  have hir : i ∈ Region.ready .any ops listed := List.mem_of_getElem? hi
  obtain ⟨h1, h2⟩ := hready i hir
  obtain ⟨pre, post, rfl⟩ := List.append_of_mem h1
  have hilt := hin i (by simp)
  have hnd' : (pre ++ post).Nodup ∧ i ∉ pre ++ post := by
   rw [List.nodup_append] at hnd
   simp only [List.nodup_cons, List.mem_cons] at hnd
   refine ⟨List.nodup_append.2 ⟨hnd.1, hnd.2.1.2, fun a ha b hb => hnd.2.2 a ha b (.inr hb)⟩, ?_⟩
   simp only [List.mem_append, not_or]
   exact ⟨fun q => hnd.2.2 i q i (.inl rfl) rfl, hnd.2.1.1⟩
  have hsoft : ∀ x ∈ pre, soft ops hard x i = true := by
   intro x hx
   rcases pairsOk2_mem hp x hx with q | q | q
   · exact q
   · have := ancs_listed (listed := fun j => j < ops.size ∧ listed.getD j true = true) (fun j hj => hdown j hj.1 hj.2) d i h2 x q
     have h3 := (hmem x (hin x (by simp [hx]))).2 (by simp [hx])
     rw [this.2] at h3; cases h3
   · have := hconf x i q (by simp [hx]) (by simp)
     have hne : i ≠ x := fun e => hnd'.2 (by subst e; simp [hx])
     rw [List.idxOf_cons, List.idxOf_cons, show (i == i) = true by simp, show (i == x) = false by simpa using hne] at this
     simp at this
  cases h.front hsoft with
  | cons k1 k2 =>
   refine .cons k1 (ih _ _ (pre ++ post) _ _ _ _ (by simp at hl ⊢; omega) (by simpa using hsz) hnd'.1 (fun j hj => hin j (by simp at hj ⊢; rcases hj with q | q <;> simp [q])) ?_ ?_ (pairsOk2_del hp) ?_ k2)
   · intro j hj
     rw [getD_set (by omega)]
     by_cases hji : j = i
     · subst hji; simp; simpa using hnd'.2
     · rw [if_neg hji, hmem j hj]; simp [hji]
   · intro j hj hlj k hk
     rw [getD_set (by omega)] at hlj ⊢
     by_cases hji : j = i
     · subst hji
       have := h2 k hk
       refine ⟨this.1, ?_⟩
       split
       · rfl
       · exact this.2
     · rw [if_neg hji] at hlj
       have := hdown j hj hlj k hk
       refine ⟨this.1, ?_⟩
       split
       · rfl
       · exact this.2
   · intro x y hxy hx hy
     have := hconf x y hxy (by simp at hx ⊢; rcases hx with q | q <;> simp [q]) (by simp at hy ⊢; rcases hy with q | q <;> simp [q])
     have hxi : i ≠ x := fun e => hnd'.2 (by rw [e]; exact hx)
     have hyi : i ≠ y := fun e => hnd'.2 (by rw [e]; exact hy)
     rw [List.idxOf_cons, List.idxOf_cons, show (i == x) = false by simpa using hxi, show (i == y) = false by simpa using hyi] at this
     simp at this
     omega

theorem W_regD2 {id} (x y : Nat) (hko : KeepOk fl ops hard) (hm : P.follows .mixedOrders = true) (d : Nat) (o1 o2 : List Nat) (ho1 : okOrder2 ops hard [(x, y)] d o1 = true) (ho2 : okOrder2 ops hard [(y, x)] d o2 = true)
    (h1 : Run P g n ops hard o1 s allT objs (Ends Q)) (h2 : Run P g n ops hard o2 s allT objs (Ends Q)) : W P g B S n fl (.region id ops true) s objs Q := fun a w gs om g1 g2 g3 g4 g5 => by
 have x' : Ext B w gs om { w with drawn := w.drawn + 1 } gs om := ⟨List.prefix_rfl, ⟨rfl, rfl, rfl, Nat.le_refl _, fun _ _ => rfl⟩, fun b hb => ⟨hb, rfl⟩⟩
 have hl : fl.n ≤ gs.length := by rw [g3.len]; exact g5
 refine wp_region_draw fun t => ?_
 simp only [Region.schedule, hm, Bool.true_or, if_true]
 have key : ∀ (x y : Nat) (o : List Nat), okOrder2 ops hard [(x, y)] d o = true → Run P g n ops hard o s allT objs (Ends Q) → ¬ (Region.linearise.go .any ops ops.size t (Array.replicate ops.size false) []).idxOf y < (Region.linearise.go .any ops ops.size t (Array.replicate ops.size false) []).idxOf x →
     WR P g B S n fl ops (Region.linearise.go .any ops ops.size t (Array.replicate ops.size false) []) s objs Q := by
  intro x y o ho h hxy
  simp only [okOrder2, Bool.and_eq_true, decide_eq_true_eq, List.all_eq_true, List.mem_range, List.contains_iff_mem] at ho
  obtain ⟨⟨⟨⟨hlen, q1⟩, q2⟩, q3⟩, q4⟩ := ho
  obtain ⟨s', c', o', tt, L, e1, e2⟩ := h
  rw [told_allT] at tt
  have tr := tr_linear2 (P := P) (g := g) (n := n) (ops := ops) (hard := hard) (d := d) ops.size t (Array.replicate ops.size false) o s objs _ o' hlen (by simp) q1 (fun i hi => q3 i hi)
   (fun i hi => by simp [hi, q2 i hi]) (fun i hi h => by simp [hi] at h) q4 (fun a b hab _ _ => by
     simp only [List.mem_singleton, Prod.mk.injEq] at hab; obtain ⟨rfl, rfl⟩ := hab; exact hxy) tt
  have := WR_tr (B := B) (S := S) (fl := fl) (l2 := []) (Q := Q) hko tr (WR_weak e1 (WR_nil e2))
  rwa [List.append_nil] at this
 have : WR P g B S n fl ops (Region.linearise.go .any ops ops.size t (Array.replicate ops.size false) []) s objs Q := by
  by_cases hq : (Region.linearise.go .any ops ops.size t (Array.replicate ops.size false) []).idxOf y < (Region.linearise.go .any ops ops.size t (Array.replicate ops.size false) []).idxOf x
  · exact key y x o2 ho2 h2 (by omega)
  · exact key x y o1 ho1 h1 hq
 exact wpOps_mono (this a { w with drawn := w.drawn + 1 } gs om (keepG g1 g2 x'.below) g2 g3.drawn ⟨g4.size, g4.defers, fun i => g3.relV x' (g4.rel i)⟩ g5) fun e a w2 h => h.trans x'.ofFull hl

def insAll (a : Nat) : List Nat → List (List Nat)
 | [] => [[a]]
 | b :: l => (a :: b :: l) :: (insAll a l).map (b :: ·)
def permsOf : List Nat → List (List Nat)
 | [] => [[]]
 | a :: l => (permsOf l).flatMap (insAll a)
def pairsAll : List Nat → List (Nat × Nat)
 | [] => []
 | a :: l => l.map (fun b => (a, b)) ++ pairsAll l
def insBy (f : Nat → Nat) (a : Nat) : List Nat → List Nat
 | [] => [a]
 | b :: l => if f a ≤ f b then a :: b :: l else b :: insBy f a l
def sortBy (f : Nat → Nat) : List Nat → List Nat
 | [] => []
 | a :: l => insBy f a (sortBy f l)
theorem insBy_mem (f : Nat → Nat) (a : Nat) : ∀ l, insBy f a l ∈ insAll a l
 | [] => by simp [insBy, insAll]
 | b :: l => by
  simp only [insBy, insAll]
  split
  · exact List.mem_cons_self
  · exact List.mem_cons_of_mem _ (List.mem_map.2 ⟨_, insBy_mem f a l, rfl⟩)
theorem sortBy_mem (f : Nat → Nat) : ∀ l, sortBy f l ∈ permsOf l
 | [] => by simp [sortBy, permsOf]
 | a :: l => List.mem_flatMap.2 ⟨_, sortBy_mem f l, insBy_mem f a _⟩
theorem mem_insBy {f : Nat → Nat} {a x : Nat} : ∀ {l}, x ∈ insBy f a l → x = a ∨ x ∈ l
 | [], h => by simp [insBy] at h; exact .inl h
 | b :: l, h => by
  simp only [insBy] at h
  split at h
  · rcases List.mem_cons.1 h with h | h
    · exact .inl h
    · exact .inr h
  · rcases List.mem_cons.1 h with h | h
    · exact .inr (by simp [h])
    · rcases mem_insBy h with h | h
      · exact .inl h
      · exact .inr (by simp [h])
theorem insBy_sorted {f : Nat → Nat} {a : Nat} : ∀ {l}, l.Pairwise (fun x y => f x ≤ f y) → (insBy f a l).Pairwise (fun x y => f x ≤ f y)
 | [], _ => by simp [insBy]
 | b :: l, h => by
  have h' := List.pairwise_cons.1 h
  simp only [insBy]
  split
  · rename_i hab
    refine List.pairwise_cons.2 ⟨fun y hy => ?_, h⟩
    rcases List.mem_cons.1 hy with rfl | hy
    · exact hab
    · exact Nat.le_trans hab (h'.1 y hy)
  · rename_i hab
    refine List.pairwise_cons.2 ⟨fun y hy => ?_, insBy_sorted h'.2⟩
    rcases mem_insBy hy with rfl | hy
    · omega
    · exact h'.1 y hy
theorem sortBy_sorted (f : Nat → Nat) : ∀ l, (sortBy f l).Pairwise (fun x y => f x ≤ f y)
 | [] => by simp [sortBy]
 | a :: l => insBy_sorted (sortBy_sorted f l)
theorem pairsAll_rel {r : Nat → Nat → Prop} : ∀ {l : List Nat}, l.Pairwise r → ∀ p ∈ pairsAll l, r p.1 p.2
 | [], _, p, hp => by simp [pairsAll] at hp
 | a :: l, h, p, hp => by
  have h' := List.pairwise_cons.1 h
  simp only [pairsAll, List.mem_append, List.mem_map] at hp
  rcases hp with ⟨b, hb, rfl⟩ | hp
  · exact h'.1 b hb
  · exact pairsAll_rel h'.2 p hp
def AllP (p : List Nat → Prop) : List (List Nat) → Prop
 | [] => True
 | o :: os => p o ∧ AllP p os
theorem AllP.get {p : List Nat → Prop} : ∀ {os}, AllP p os → ∀ o ∈ os, p o
 | _ :: _, h, o, ho => by
  rcases List.mem_cons.1 ho with rfl | ho
  · exact h.1
  · exact h.2.get o ho

theorem W_regDS {id} (A : List Nat) (hko : KeepOk fl ops hard) (hm : P.follows .mixedOrders = true) (d : Nat) (os : List (List Nat)) (hos : (permsOf A).all (fun π => os.any fun o => okOrder2 ops hard (pairsAll π) d o) = true)
    (h : AllP (fun o => Run P g n ops hard o s allT objs (Ends Q)) os) : W P g B S n fl (.region id ops true) s objs Q := fun a w gs om g1 g2 g3 g4 g5 => by
 have x' : Ext B w gs om { w with drawn := w.drawn + 1 } gs om := ⟨List.prefix_rfl, ⟨rfl, rfl, rfl, Nat.le_refl _, fun _ _ => rfl⟩, fun b hb => ⟨hb, rfl⟩⟩
 have hl : fl.n ≤ gs.length := by rw [g3.len]; exact g5
 refine wp_region_draw fun t => ?_
 simp only [Region.schedule, hm, Bool.true_or, if_true]
 generalize hL : Region.linearise.go .any ops ops.size t (Array.replicate ops.size false) [] = L
 have hp := sortBy_mem (fun x => L.idxOf x) A
 have hs := pairsAll_rel (sortBy_sorted (fun x => L.idxOf x) A)
 have hany := List.all_eq_true.1 hos _ hp
 obtain ⟨o, ho1, ho⟩ := List.any_eq_true.1 hany
 have hrun := h.get o ho1
 have : WR P g B S n fl ops L s objs Q := by
  simp only [okOrder2, Bool.and_eq_true, decide_eq_true_eq, List.all_eq_true, List.mem_range, List.contains_iff_mem] at ho
  obtain ⟨⟨⟨⟨hlen, q1⟩, q2⟩, q3⟩, q4⟩ := ho
  obtain ⟨s', c', o', tt, L', e1, e2⟩ := hrun
  rw [told_allT] at tt
  have tr := tr_linear2 (P := P) (g := g) (n := n) (ops := ops) (hard := hard) (d := d) ops.size t (Array.replicate ops.size false) o s objs _ o' hlen (by simp) q1 (fun i hi => q3 i hi)
   (fun i hi => by simp [hi, q2 i hi]) (fun i hi h => by simp [hi] at h) q4 (fun a b hab _ _ => by
     have := hs (a, b) hab
     rw [hL]; simp only at this; omega) tt
  rw [hL] at tr
  have := WR_tr (B := B) (S := S) (fl := fl) (l2 := []) (Q := Q) hko tr (WR_weak e1 (WR_nil e2))
  rwa [List.append_nil] at this
 rw [show Region.linearise .any ops t = L from hL]
 exact wpOps_mono (this a { w with drawn := w.drawn + 1 } gs om (keepG g1 g2 x'.below) g2 g3.drawn ⟨g4.size, g4.defers, fun i => g3.relV x' (g4.rel i)⟩ g5) fun e a w2 h => h.trans x'.ofFull hl

theorem keepOk_lt (h : ∀ i ∈ hard, i < 1000) : KeepOk fl ops hard := fun _ i hi => by have := h _ hi; omega
end
end Go.Awp

/- The walk over abstract states: objects change their places. Lemmas alone. -/
namespace Go.Awp
open Go.RowKit Go.Lib

mutual
def AV.ren (σ : Nat → Nat) : AV → AV
 | .hdr r a b => .hdr (σ r) a b
 | .ptr r a b => .ptr (σ r) a b
 | .agg cs => .agg (AV.rens σ cs)
 | .tup cs => .tup (AV.rens σ cs)
 | .fn f a b => .fn f (AV.rens σ a) (AV.rens σ b)
 | .ifc t x => .ifc t (x.ren σ)
 | .d x => .d x
 | .cut k xs => .cut k xs
 | .rp cs j => .rp cs j
 | .dead => .dead
def AV.rens (σ : Nat → Nat) : List AV → List AV
 | [] => []
 | a :: as => a.ren σ :: AV.rens σ as
end

def Obj.ren (σ : Nat → Nat) : Obj → Obj
 | .var T cs => .var T (AV.rens σ cs)
 | .hole i r' len xs => .hole i (σ r') len xs
 | .nhole i r' len L => .nhole i (σ r') len L
 | .lp l c L st p => .lp l c (L.map fun p => (p.1, p.2.ren σ)) st p
 | o => o

def slotsRen (σ : Nat → Nat) : List (Nat × AV) → List (Nat × AV)
 | [] => []
 | (i, a) :: l => (i, a.ren σ) :: slotsRen σ l

def omRen (σ : Nat → Nat) (om : Nat → Option (Nat × Bool)) (b : Nat) : Option (Nat × Bool) := (om b).map fun p => (σ p.1, p.2)

section
variable {P : Program} {g : Gl} {B : Nat} {S : Nat → Prop} {n : Nat} {fl : Fl} {w : World} {gs gs' : List G1} {om : Nat → Option (Nat × Bool)} {s : Nat → AV} {objs : List Obj} {Q : Qt} {σ τ : Nat → Nat}

section
variable {N N' : Nat → Prop} (hN : ∀ b, N b → N' b) (hg : ∀ r g, gs[r]? = some g → gs'[σ r]? = some g)
include hN hg
mutual
theorem RelV.ren : ∀ {a v}, RelV w S N gs a v → RelV w S N' gs' (a.ren σ) v
 | _, _, .d h => by simp only [AV.ren]; exact .d (RelD.mono (fun b hb => ⟨hb, rfl⟩) (fun b hb => ⟨hN b hb, rfl⟩) h (by simp))
 | _, _, .hdr h1 h2 h3 h4 h5 h6 => by simp only [AV.ren]; exact .hdr (hg _ _ h1) h2 h3 h4 h5 h6
 | _, _, .hdr0 h1 h2 => by simp only [AV.ren]; exact .hdr0 (hg _ _ h1) h2
 | _, _, .cutNil => by simp only [AV.ren]; exact .cutNil
 | _, _, .cutEmpty => by simp only [AV.ren]; exact .cutEmpty
 | _, _, .cut h1 h2 h3 h4 h5 h6 => by simp only [AV.ren]; exact .cut h1 (h2.imp id (hN _)) h3 h4 h5 (RelL.mono (fun b hb => ⟨hb, rfl⟩) (fun b hb => ⟨hN b hb, rfl⟩) h6 (by simp))
 | _, _, .ptr h1 h2 => by simp only [AV.ren]; exact .ptr (hg _ _ h1) h2
 | _, _, .rp h1 h2 h3 h4 h5 => by simp only [AV.ren]; exact .rp h1 (h2.imp id (hN _)) h3 h4 (RelL.mono (fun b hb => ⟨hb, rfl⟩) (fun b hb => ⟨hN b hb, rfl⟩) h5 (by simp))
 | _, _, .agg h => by simp only [AV.ren]; exact .agg (RelVs.ren h)
 | _, _, .tup h => by simp only [AV.ren]; exact .tup (RelVs.ren h)
 | _, _, .fn h1 h2 => by simp only [AV.ren]; exact .fn (RelVs.ren h1) (RelVs.ren h2)
 | _, _, .ifc h => by simp only [AV.ren]; exact .ifc (RelV.ren h)
 | _, _, .dead => by simp only [AV.ren]; exact .dead
theorem RelVs.ren : ∀ {as vs}, RelVs w S N gs as vs → RelVs w S N' gs' (AV.rens σ as) vs
 | _, _, .nil => by simp only [AV.rens]; exact .nil
 | _, _, .cons h t => by simp only [AV.rens]; exact .cons (RelV.ren h) (RelVs.ren t)
end
end

variable (hσ : ∀ x, σ (τ x) = x) (hτ : ∀ x, τ (σ x) = x)
include hσ hτ

theorem inner_ren {b : Nat} (h : Inner B w om b) : Inner B w (omRen σ om) b := ⟨h.1, h.2.1, fun r e => by
  simp only [omRen, Option.map_eq_some_iff, Prod.mk.injEq] at e
  obtain ⟨⟨r1, c1⟩, h1, rfl, rfl⟩ := e
  exact h.2.2 _ h1⟩

theorem RelO.ren (hg : ∀ r g, gs[r]? = some g → gs'[σ r]? = some g) {r : Nat} {o : Obj} (h : RelO B w S gs om r o) : RelO B w S gs' (omRen σ om) (σ r) (o.ren σ) := by
 have hin : ∀ b, Inner B w om b → Inner B w (omRen σ om) b := fun b => inner_ren hσ hτ
 have hom : ∀ b c, om b = some (r, c) → omRen σ om b = some (σ r, c) := fun b c e => by simp [omRen, e]
 induction h with
 | var h1 hb hB ho hw hv => exact .var (hg _ _ h1) hb hB (hom _ _ ho) hw (RelVs.ren hin hg hv)
 | row0 h1 hk hb => exact .row0 (hg _ _ h1) hk hb
 | row h1 hgk hb hB ho hw hc hn hk' hvs hv hF hFo =>
  exact .row (hg _ _ h1) hgk hb hB (hom _ _ ho) hw hc hn hk' hvs (RelL.mono (fun b hb => ⟨hb, rfl⟩) (fun b hb => ⟨hin b hb, rfl⟩) hv (fun _ _ => rfl)) hF (fun b hb => ⟨(hFo b hb).1, (hFo b hb).2.1, hom _ _ (hFo b hb).2.2⟩)
 | @hole i r' len xs v _ hi hne hv ih => exact .hole ih hi (fun e => hne (by have := congrArg τ e; rwa [hτ, hτ] at this)) (by have := RelV.ren hin hg hv; simpa only [AV.ren] using this)
 | it h1 hb hB ho hw => exact .it (hg _ _ h1) hb hB (hom _ _ ho) hw
 | lp h1 hb hB ho hw hs hv =>
  exact .lp (hg _ _ h1) hb hB (hom _ _ ho) hw hs (fun p hp => by
    obtain ⟨q, hq, rfl⟩ := List.mem_map.1 hp
    exact RelV.ren hin hg (hv q hq))
 | blk h1 hb hB ho hw => exact .blk (hg _ _ h1) hb hB (hom _ _ ho) hw
 | nest0 h1 hk hb => exact .nest0 (hg _ _ h1) hk hb
 | nest h1 hgk hb hB ho hw hc hn hvs hv hF hFo =>
  exact .nest (hg _ _ h1) hgk hb hB (hom _ _ ho) hw hc hn hvs hv hF (fun b hb => ⟨(hFo b hb).1, (hFo b hb).2.1, hom _ _ (hFo b hb).2.2⟩)
 | @nhole i r' len L v _ hi hne hv ih => exact .nhole ih hi (fun e => hne (by have := congrArg τ e; rwa [hτ, hτ] at this)) (by have := RelV.ren hin hg hv; simpa only [AV.ren] using this)
 | grow0 h1 hk hb hz => exact .grow0 (hg _ _ h1) hk hb hz
 | grow h1 hgk hb hB ho hw hc hgc hn hvs => exact .grow (hg _ _ h1) hgk hb hB (hom _ _ ho) hw hc hgc hn hvs
 | dead => exact .dead

theorem slots_ren (L : List (Nat × AV)) (j : Nat) : slots (slotsRen σ L) j = (slots L j).ren σ := by
 induction L with
 | nil => simp [slotsRen, slots, AV.ren]
 | cons p L ih =>
  obtain ⟨i, a⟩ := p
  simp only [slotsRen, slots]
  split
  · rfl
  · exact ih

theorem Weak.ren {L : List (Nat × AV)} {objs2 : List Obj} (hfl : ∀ x, x < fl.n → τ x = x) (hlt : ∀ x, x < objs.length ↔ σ x < objs.length) (h2 : objs2 = (List.range objs.length).map fun r => (objs.getD (τ r) .dead).ren σ) :
    Weak B S n fl (slots L) objs (slots (slotsRen σ L)) objs2 := fun w a gs om hM hF hlen => by
 subst h2
 have hgl := hM.len
 let gs' : List G1 := (List.range gs.length).map fun r => gs.getD (τ r) ⟨none, 0, 0⟩
 have hg : ∀ r g, gs[r]? = some g → gs'[σ r]? = some g := fun r g h => by
  have hr : r < gs.length := (List.getElem?_eq_some_iff.1 h).1
  have hr2 : σ r < gs.length := by rw [hgl] at hr ⊢; exact (hlt r).1 hr
  simp only [gs', List.getElem?_map, List.getElem?_range hr2, Option.map_some, hτ, List.getD_eq_getElem?_getD, h, Option.getD_some]
 have hin : ∀ b, Inner B w om b → Inner B w (omRen σ om) b := fun b => inner_ren hσ hτ
 have hM' : RelM B w S ((List.range objs.length).map fun r => (objs.getD (τ r) .dead).ren σ) gs' (omRen σ om) := by
  refine ⟨by simp [gs', hgl], fun r o ho => ?_, hM.hS, hM.hB⟩
  have hr : r < objs.length := by
   have := (List.getElem?_eq_some_iff.1 ho).1
   simpa using this
  simp only [List.getElem?_map, List.getElem?_range hr, Option.map_some, Option.some.injEq] at ho
  subst ho
  have hr2 : τ r < objs.length := (hlt (τ r)).2 (by rw [hσ]; exact hr)
  have hget : objs[τ r]? = some (objs.getD (τ r) .dead) := by rw [List.getD_eq_getElem?_getD, List.getElem?_eq_getElem hr2]; rfl
  have := RelO.ren hσ hτ hg (hM.obj (τ r) _ hget)
  rwa [hσ] at this
 refine ⟨gs', omRen σ om, hM', ⟨hF.size, hF.defers, fun j => ?_⟩, ⟨?_, .refl _ _, fun _ b hb => ⟨hin b hb, rfl⟩⟩⟩
 · rw [slots_ren hσ hτ]; exact RelV.ren hin hg (hF.rel j)
 · have : gs.take fl.n = gs'.take fl.n := by
    apply List.ext_getElem?
    intro x
    simp only [List.getElem?_take]
    by_cases hx : x < fl.n
    · rw [if_pos hx, if_pos hx]
      have hxl : x < gs.length := by rw [hgl]; omega
      simp only [gs', List.getElem?_map, List.getElem?_range hxl, Option.map_some, hfl x hx, List.getD_eq_getElem?_getD, List.getElem?_eq_getElem hxl, Option.getD_some]
    · rw [if_neg hx, if_neg hx]
   rw [this]; exact List.take_prefix _ _
end

def swapB (i j k x : Nat) : Nat := if i ≤ x ∧ x < i + k then x - i + j else if j ≤ x ∧ x < j + k then x - j + i else x
theorem swapB_inv {i j k : Nat} (h : i + k ≤ j) (x : Nat) : swapB i j k (swapB i j k x) = x := by
 unfold swapB
 (repeat' split) <;> omega
theorem swapB_lt {i j k m : Nat} (h : i + k ≤ j) (hj : j + k ≤ m) (x : Nat) (hx : x < m) : swapB i j k x < m := by
 unfold swapB
 (repeat' split) <;> omega
theorem swapB_low {i j k m : Nat} (h : i + k ≤ j) (hm : m ≤ i) (x : Nat) (hx : x < m) : swapB i j k x = x := by
 unfold swapB
 (repeat' split) <;> omega

section
variable {P : Program} {g : Gl} {B : Nat} {S : Nat → Prop} {n : Nat} {fl : Fl} {w : World} {gs : List G1} {om : Nat → Option (Nat × Bool)} {s : Nat → AV} {objs : List Obj} {Q : Qt}
theorem rounds_swap (i j k : Nat) {L : List (Nat × AV)} {objs2 : List Obj} {L2 : List (Nat × AV)} {I : Nat → (Nat → AV) → List Obj → Prop} {m} (h1 : i + k ≤ j) (h2 : j + k ≤ objs.length) (h3 : fl.n ≤ i)
    (ho : objs2 = (List.range objs.length).map fun r => (objs.getD (swapB i j k r) .dead).ren (swapB i j k)) (hL : L2 = slotsRen (swapB i j k) L)
    (h : Rounds B S n fl I m (fun _ _ _ => False) .normal (slots L2) objs2) : Rounds B S n fl I m (fun _ _ _ => False) .normal (slots L) objs := by
 subst hL
 obtain ⟨m', hm', s2, o2, hw, hI⟩ := h
 refine ⟨m', hm', s2, o2, (Weak.ren (σ := swapB i j k) (τ := swapB i j k) (swapB_inv h1) (swapB_inv h1) (fun x hx => swapB_low h1 h3 x hx) (fun x => ⟨swapB_lt h1 h2 x, fun hx => by have := swapB_lt h1 h2 _ hx; rwa [swapB_inv h1] at this⟩) ho).trans hw (fun w gs om q1 q2 => by rw [← q1.len]; exact q2), hI⟩
theorem Weak.kills (live : List Nat) {L : List (Nat × AV)} (hL : pickL s live = L) : Weak B S n fl s objs (slots L) objs := by
 subst hL; exact Weak.kill (fun j => slots_pick j)
theorem rounds_kills (live : List Nat) {L : List (Nat × AV)} {I : Nat → (Nat → AV) → List Obj → Prop} {m} (hL : pickL s live = L) (h : Rounds B S n fl I m (fun _ _ _ => False) .normal (slots L) objs) : Rounds B S n fl I m (fun _ _ _ => False) .normal s objs := by
 subst hL; exact rounds_kill live h
end
def permL (N : Nat) (l : List Nat) (x : Nat) : Nat := if x < N then l.getD x x else x
def permOk (N m : Nat) (l l2 : List Nat) : Bool := (List.range N).all fun x => decide (permL N l x < N) && decide (permL N l2 x < N) && (permL N l2 (permL N l x) == x) && (permL N l (permL N l2 x) == x) && (decide (m ≤ x) || permL N l2 x == x)
section
variable {P : Program} {g : Gl} {B : Nat} {S : Nat → Prop} {n : Nat} {fl : Fl} {w : World} {gs : List G1} {om : Nat → Option (Nat × Bool)} {s : Nat → AV} {objs : List Obj} {Q : Qt} {ops : Array Oper} {hard : List Nat}
theorem run_inlG {K : (Nat → AV) → (Nat → Bool) → List Obj → Prop} {c : Nat → Bool} {i l} {o : Oper} {cl : Call} {b f as av} (ho : ops[i]? = some o) (hg : Got (guardB ops s c o.guard) (some b)) (hd : dstOk n o.dst = true) (hc : o.op = .call cl) (hx : argsOk b c o.op.operands.toList)
    (h : Got (calleeA (evalA s) cl) (some (f, as))) (hE : Enters P f) (hk : b = true → ∀ B S, CallsA P g B S ⟨objs.length, true⟩ f as objs (fun a o => a = av ∧ o = objs))
    (k : Run P g n ops hard l (put s o.dst av) (updB c o.dst b) objs K) : Run P g n ops hard (i :: l) s c objs K := by
 refine Run.cons (s1 := put s o.dst av) (c1 := updB c o.dst b) ?_ k
 rw [told_put]
 cases b with
 | true => exact .inl ho (gA_told hg) hc (by rw [← calleeA_congr (by have := evalA_told (s := s) rfl hx; rw [hc] at this; exact this)]; exact h) hE (hk rfl) (.inr ⟨[], by simp⟩) (putA_ok hd)
 | false => exact .skip ho (gA_told hg) (putA_ok hd)
end
attribute [simp] AV.ren AV.rens slotsRen swapB permL
@[simp] theorem ren_var {σ T cs} : Obj.ren σ (.var T cs) = .var T (AV.rens σ cs) := rfl
@[simp] theorem ren_row {σ k xs} : Obj.ren σ (.row k xs) = .row k xs := rfl
@[simp] theorem ren_dead {σ} : Obj.ren σ .dead = .dead := rfl
end Go.Awp

/- A region that draws: some operations in any order that their ties let. Lemmas alone. -/
namespace Go.Awp
open Go.RowKit Go.Lib
section
variable {P : Program} {g : Gl} {B : Nat} {S : Nat → Prop} {n : Nat} {fl : Fl} {w : World} {gs : List G1} {om : Nat → Option (Nat × Bool)} {s : Nat → AV} {objs : List Obj} {Q : Qt} {ops : Array Oper} {hard : List Nat}

theorem go_preds : ∀ (fuel t : Nat) (listed : Array Bool), listed.size = ops.size → ∀ i ∈ Region.linearise.go .any ops fuel t listed [], ∀ j ∈ predsOf ops i,
    listed.getD j false = true ∨ (Region.linearise.go .any ops fuel t listed []).idxOf j < (Region.linearise.go .any ops fuel t listed []).idxOf i
 | 0, t, listed, hsz, i, hi, j, hj => by simp [Region.linearise.go] at hi
 | fuel + 1, t, listed, hsz, i, hi, j, hj => by
  cases hr : (Region.ready .any ops listed)[t % (Region.ready .any ops listed).length]? with
  | none =>
   exfalso
   simp only [Region.linearise.go] at hi
   change i ∈ (match (Region.ready .any ops listed)[t % (Region.ready .any ops listed).length]? with
     | some i => Region.linearise.go .any ops fuel (t / (Region.ready .any ops listed).length) (listed.setIfInBounds i true) [i]
     | none => [].reverse) at hi
   rw [hr] at hi
   simp at hi
  | some i0 =>
   have hL : Region.linearise.go .any ops (fuel + 1) t listed [] = i0 :: Region.linearise.go .any ops fuel (t / (Region.ready .any ops listed).length) (listed.setIfInBounds i0 true) [] := by
    simp only [Region.linearise.go]
    change (match (Region.ready .any ops listed)[t % (Region.ready .any ops listed).length]? with
      | some i => Region.linearise.go .any ops fuel (t / (Region.ready .any ops listed).length) (listed.setIfInBounds i true) [i]
      | none => [].reverse) = _
    rw [hr]
    simp only
    rw [linearise_go_acc, List.reverse_singleton, List.singleton_append]
   rw [hL] at hi ⊢
   obtain ⟨h1, o, ho, h2⟩ := mem_ready.1 (List.mem_of_getElem? hr)
   by_cases e : i = i0
   · subst e
     left
     simp only [predsOf, ho, List.mem_map, List.mem_filter] at hj
     obtain ⟨q, ⟨hq, hb⟩, rfl⟩ := hj
     exact h2 q (by simpa using hq) hb
   · have hi' : i ∈ Region.linearise.go .any ops fuel (t / (Region.ready .any ops listed).length) (listed.setIfInBounds i0 true) [] := by
      rcases List.mem_cons.1 hi with h | h
      · exact absurd h e
      · exact h
     have ih := go_preds fuel (t / (Region.ready .any ops listed).length) (listed.setIfInBounds i0 true) (by simpa using hsz) i hi' j hj
     by_cases ej : j = i0
     · subst ej
       right
       rw [List.idxOf_cons, List.idxOf_cons, show (j == j) = true by simp, show (j == i) = false by simpa using fun h => e h.symm]
       simp
     · rcases ih with ih | ih
       · left
         rw [Array.getD_eq_getD_getElem?, Array.getElem?_setIfInBounds_ne (fun h => ej h.symm), ← Array.getD_eq_getD_getElem?] at ih
         exact ih
       · right
         rw [List.idxOf_cons, List.idxOf_cons, show (i0 == j) = false by simpa using fun h => ej h.symm, show (i0 == i) = false by simpa using fun h => e h.symm]
         simp
         exact ih

def badPerm (ops : Array Oper) (A : List Nat) (π : List Nat) : Bool := (pairsAll π).any fun p => (predsOf ops p.1).contains p.2 && decide (A.idxOf p.2 < A.idxOf p.1)

theorem W_regDT {id} (A : List Nat) (hko : KeepOk fl ops hard) (hm : P.follows .mixedOrders = true) (d : Nat) (os : List (List Nat)) (hos : (permsOf A).all (fun π => badPerm ops A π || os.any fun o => okOrder2 ops hard (pairsAll π) d o) = true)
    (h : AllP (fun o => Run P g n ops hard o s allT objs (Ends Q)) os) : W P g B S n fl (.region id ops true) s objs Q := fun a w gs om g1 g2 g3 g4 g5 => by
 have x' : Ext B w gs om { w with drawn := w.drawn + 1 } gs om := ⟨List.prefix_rfl, ⟨rfl, rfl, rfl, Nat.le_refl _, fun _ _ => rfl⟩, fun b hb => ⟨hb, rfl⟩⟩
 have hl : fl.n ≤ gs.length := by rw [g3.len]; exact g5
 refine wp_region_draw fun t => ?_
 simp only [Region.schedule, hm, Bool.true_or, if_true]
 have hpr := go_preds (ops := ops) ops.size t (Array.replicate ops.size false) (by simp)
 generalize hL : Region.linearise.go .any ops ops.size t (Array.replicate ops.size false) [] = L at hpr
 have hrank : ∀ x, A.idxOf x < A.length + 1 := fun x => Nat.lt_succ_of_le List.idxOf_le_length
 have hp := sortBy_mem (fun x => L.idxOf x * (A.length + 1) + A.idxOf x) A
 have hs := pairsAll_rel (sortBy_sorted (fun x => L.idxOf x * (A.length + 1) + A.idxOf x) A)
 have hlt : ∀ x y, L.idxOf y < L.idxOf x → L.idxOf y * (A.length + 1) + A.idxOf y < L.idxOf x * (A.length + 1) + A.idxOf x := fun x y h => by
  have h1 : (L.idxOf y + 1) * (A.length + 1) ≤ L.idxOf x * (A.length + 1) := Nat.mul_le_mul_right _ h
  have := hrank y
  rw [Nat.add_mul] at h1
  omega
 have hany := List.all_eq_true.1 hos _ hp
 have hnb : badPerm ops A (sortBy (fun x => L.idxOf x * (A.length + 1) + A.idxOf x) A) = false := by
  cases hb : badPerm ops A (sortBy (fun x => L.idxOf x * (A.length + 1) + A.idxOf x) A) with
  | false => rfl
  | true =>
   exfalso
   unfold badPerm at hb
   obtain ⟨p, hp1, hp2⟩ := List.any_eq_true.1 hb
   simp only [Bool.and_eq_true, List.contains_iff_mem, decide_eq_true_eq] at hp2
   have hle := hs p hp1
   by_cases hx : p.1 ∈ L
   · rcases hpr p.1 hx p.2 hp2.1 with h | h
     · rw [Array.getD_eq_getD_getElem?] at h
       by_cases hq : p.2 < ops.size
       · simp [hq] at h
       · simp [hq] at h
     · have := hlt p.1 p.2 h; omega
   · have e1 : L.idxOf p.1 = L.length := List.idxOf_eq_length hx
     by_cases hy : p.2 ∈ L
     · have := List.idxOf_lt_length_of_mem hy
       have := hlt p.1 p.2 (by omega)
       omega
     · have e2 : L.idxOf p.2 = L.length := List.idxOf_eq_length hy
       rw [e1, e2] at hle
       omega
 simp only [hnb, Bool.false_or] at hany
 obtain ⟨o, ho1, ho⟩ := List.any_eq_true.1 hany
 have hrun := h.get o ho1
 have : WR P g B S n fl ops L s objs Q := by
  simp only [okOrder2, Bool.and_eq_true, decide_eq_true_eq, List.all_eq_true, List.mem_range, List.contains_iff_mem] at ho
  obtain ⟨⟨⟨⟨hlen, q1⟩, q2⟩, q3⟩, q4⟩ := ho
  obtain ⟨s', c', o', tt, L', e1, e2⟩ := hrun
  rw [told_allT] at tt
  have tr := tr_linear2 (P := P) (g := g) (n := n) (ops := ops) (hard := hard) (d := d) ops.size t (Array.replicate ops.size false) o s objs _ o' hlen (by simp) q1 (fun i hi => q3 i hi)
   (fun i hi => by simp [hi, q2 i hi]) (fun i hi h => by simp [hi] at h) q4 (fun a b hab _ _ => by
     have := hs (a, b) hab
     rw [hL]; simp only at this
     intro hc
     have := hlt a b hc
     omega) tt
  rw [hL] at tr
  have := WR_tr (B := B) (S := S) (fl := fl) (l2 := []) (Q := Q) hko tr (WR_weak e1 (WR_nil e2))
  rwa [List.append_nil] at this
 rw [show Region.linearise .any ops t = L from hL]
 exact wpOps_mono (this a { w with drawn := w.drawn + 1 } gs om (keepG g1 g2 x'.below) g2 g3.drawn ⟨g4.size, g4.defers, fun i => g3.relV x' (g4.rel i)⟩ g5) fun e a w2 h => h.trans x'.ofFull hl
end
end Go.Awp

/- A nil slice that stands in a variable, as a row of its own. Lemmas alone. -/
namespace Go.Awp
open Go.RowKit Go.Lib
section
variable {P : Program} {g : Gl} {B : Nat} {S : Nat → Prop} {n : Nat} {fl : Fl} {s : Nat → AV} {objs : List Obj}
theorem RelVs.setOne {w : World} {N : Nat → Prop} {gs : List G1} : ∀ {as : List AV} {vs : List Value} {i : Nat} {b : AV} {v : Value}, RelVs w S N gs as vs → vs[i]? = some v → RelV w S N gs b v → RelVs w S N gs (as.set i b) vs
 | _, _, _, _, _, .nil, hv, _ => by simp at hv
 | _, _, 0, _, _, .cons h t, hv, hb => by simp at hv; subst hv; exact .cons hb t
 | _, _, i + 1, _, _, .cons h t, hv, hb => .cons h (RelVs.setOne t (by simpa using hv) hb)
theorem Weak.nilCell (r i k : Nat) {T : TypeId} {cs : List AV} (hr : objs[r]? = some (.var T cs)) (hc : cs[i]? = some (.d (.v (.slice none 0 0)))) :
    Weak B S n fl s objs s ((objs ++ [Obj.row k []]).set r (Obj.var T (cs.set i (AV.hdr objs.length 0 0)))) := fun w a gs om hM hF hlen => by
 have h := hM.push_nil 0 k
 have hrl : r < objs.length := (List.getElem?_eq_some_iff.1 hr).1
 refine ⟨_, om, ⟨by simp [hM.len], fun r1 o1 h1 => ?_, hM.hS, hM.hB⟩, ⟨hF.size, hF.defers, fun j => hM.relV h.1 (hF.rel j)⟩, h.1.ofFull⟩
 rcases get_set h1 with ⟨rfl, rfl⟩ | ⟨hne, h1⟩
 · have ho := h.2.obj r1 (.var T cs) (by rw [List.getElem?_append_left hrl]; exact hr)
   cases ho with
   | var hg hb hB ho hw hv =>
    obtain ⟨v, hv1, hv2⟩ := hv.get hc
    refine .var hg hb hB ho hw (RelVs.setOne hv hv1 ?_)
    cases hv2 with
    | d hr =>
     cases hr
     exact .hdr0 (gs_new _ _ hM.len) rfl
 · exact h.2.obj r1 o1 h1
theorem endAt_dropN {fl : Nat} {fn : Func} {as av objs'} (m : Nat) (h1 : Got (ressA P s objs fn.results.toList) (some as)) (h2 : tupA as = av) (h3 : objs' = objs.take m) (h4 : fl ≤ m) (h5 : av.lt m = true) (h6 : objsLt m (objs.take m) = true) : EndAt P fn fl av objs' .normal s objs :=
 ⟨as, h1, h2, .inr ⟨m, h3, h4, h5, h6⟩⟩
end
end Go.Awp

/- Arguments as a row's statement tells them, as data. Lemmas alone. -/
namespace Go.Awp
open Go.RowKit

structure Opens (P : Program) (t : TypeId) {α : Type} (enc : α → List D) : Prop where
 get : ∀ {H : Type} (e : TypeId × Value → H) (W : World) (spare : Nat → Bool) (held : Bool) (fuel : Nat) (cs : List Value) (x : DataW H × List MemPlace),
  DataW.trod e P W 0 spare held fuel t cs = some x → ∃ a : α, RelL W (fun b => b < W.heap.size) (fun _ => False) (enc a) cs []

structure OpensFs (P : Program) (n : Nat) (fs : List Field) (off : Nat) {α : Type} (enc : α → List D) : Prop where
 get : ∀ {H : Type} (e : TypeId × Value → H) (W : World) (spare : Nat → Bool) (held : Bool) (fuel : Nat) (cs : List Value), cs.length = n →
  (∀ f ∈ fs, ∃ x, DataW.trod e P W 0 spare held fuel f.type ((cs.drop f.offset).take (P.cellsOf f.type)) = some x) → ∃ a : α, RelL W (fun b => b < W.heap.size) (fun _ => False) (enc a) (cs.drop off) []

section
variable {P : Program} {t e : TypeId} {α β : Type} {enc : α → List D}

theorem Opens.map (h : Opens P t enc) (g : α → β) {enc' : β → List D} (hg : ∀ a, enc a = enc' (g a)) : Opens P t enc' := .mk fun e W sp hd fuel cs x hx => by
 obtain ⟨a, ha⟩ := h.get e W sp hd fuel cs x hx
 exact ⟨g a, by rw [← hg]; exact ha⟩

theorem opens_int {k : IntKind} (ht : P.underlying t = some (.int k)) : Opens P t fun n : Int => [.v (.int k n)] := .mk fun e W sp hd fuel cs x hx => by
 obtain ⟨n, rfl, _, _⟩ := DataW.trod_int ht hx
 exact ⟨n, .cons (F := []) (G := []) (.v rfl) .nil⟩

theorem opens_byte (ht : P.underlying t = some (.int .u8)) : Opens P t fun b : UInt8 => [.v (.int .u8 b.toNat)] := .mk fun e W sp hd fuel cs x hx => by
 obtain ⟨n, rfl, _, hw⟩ := DataW.trod_int ht hx
 have hb : 0 ≤ n ∧ n < 256 := by
  obtain ⟨h1, h2⟩ : IntKind.u8.min ≤ n ∧ n ≤ IntKind.u8.max := by simpa [Lit.wf] using hw
  have e1 : IntKind.u8.min = 0 := rfl
  have e2 : IntKind.u8.max = 255 := rfl
  omega
 refine ⟨UInt8.ofNat n.toNat, .cons (F := []) (G := []) ?_ .nil⟩
 have : ((UInt8.ofNat n.toNat).toNat : Int) = n := by
  have : (UInt8.ofNat n.toNat).toNat = n.toNat % 2^8 := UInt8.toNat_ofNat'
  omega
 rw [this]
 exact .v rfl

theorem opens_bool (ht : P.underlying t = some .bool) : Opens P t fun b : Bool => [.v (.bool b)] := .mk fun e W sp hd fuel cs x hx => by
 obtain ⟨b, rfl, _⟩ := DataW.trod_bool ht hx
 exact ⟨b, .cons (F := []) (G := []) (.v rfl) .nil⟩

theorem opens_str (ht : P.underlying t = some .string) : Opens P t fun s : ByteArray => [.v (.string s)] := .mk fun e W sp hd fuel cs x hx => by
 obtain ⟨s, rfl, _, _⟩ := DataW.trod_string ht hx
 exact ⟨s, .cons (F := []) (G := []) (.v rfl) .nil⟩

theorem opens_pick {len : Nat} {p : Nat → α → Prop} (h : ∀ i, i < len → ∃ a, p i a) : ∃ l : List α, l.length = len ∧ ∀ i (hi : i < l.length), p i l[i] := by
 refine ⟨List.ofFn fun i : Fin len => Classical.choose (h i.1 i.2), by simp, fun i hi => ?_⟩
 simp only [List.getElem_ofFn]
 exact Classical.choose_spec (h i (by simpa using hi))

theorem opens_rows {w : World} {S N : Nat → Prop} {k : Nat} {f : α → D} (hf : ∀ a, (f a).cells = enc a) {cur : Array Value} : ∀ (l : List α) (off : Nat),
    (∀ i (hi : i < l.length), ∃ cs : List Value, cs.length = k ∧ (∀ j, j < k → cur[off + i * k + j]? = cs[j]?) ∧ RelL w S N (enc l[i]) cs []) →
    RelL w S N (flat (l.map f)) ((cur.toList.drop off).take (l.length * k)) [] ∧ ((cur.toList.drop off).take (l.length * k)).length = l.length * k
 | [], off, _ => by simp [flat]; exact .nil
 | a :: l, off, h => by
  obtain ⟨cs, h1, h2, h3⟩ := h 0 (by simp)
  obtain ⟨r1, r2⟩ := opens_rows hf l (off + k) fun i hi => by
   obtain ⟨cs, a1, a2, a3⟩ := h (i + 1) (by simp; omega)
   refine ⟨cs, a1, fun j hj => ?_, by simpa using a3⟩
   rw [← a2 j hj]; congr 1; rw [Nat.add_mul]; omega
  have e1 : (cur.toList.drop off).take k = cs := by
   apply List.ext_getElem?
   intro j
   simp only [List.getElem?_take, List.getElem?_drop, Array.getElem?_toList]
   by_cases hj : j < k
   · rw [if_pos hj, ← h2 j hj]; congr 1; omega
   · rw [if_neg hj, List.getElem?_eq_none (by omega)]
  have e2 : (cur.toList.drop off).take ((a :: l).length * k) = cs ++ (cur.toList.drop (off + k)).take (l.length * k) := by
   rw [← e1, List.length_cons, Nat.add_mul, Nat.one_mul, Nat.add_comm (l.length * k) k, List.take_add, List.drop_drop]
  rw [e2]
  refine ⟨?_, by simp only [List.length_append, h1, r2, List.length_cons, Nat.add_mul]; omega⟩
  have : flat ((a :: l).map f) = enc a ++ flat (l.map f) := by rw [List.map_cons, flat, List.flatMap_cons, hf]; rfl
  rw [this]
  simpa using RelL.append (by simpa using h3) r1

theorem opens_slice {k : Nat} {f : α → D} (ht : P.underlying t = some (.slice e)) (hk : P.cellsOf e = k) (hk0 : 0 < k) (he : Opens P e enc) (hf : ∀ a, (f a).cells = enc a) (hfit : ∀ a, Fits k (f a)) :
    Opens P t fun l : List α => [rows k f l] := .mk fun en W sp hd fuel cs x hx => by
 rcases DataW.trod_slice ht hx with ⟨rfl, _⟩ | ⟨a, len, cap, elems, rest, n, _, rfl, _, _, hlc, hcm, hel, hat, _, _⟩
 · exact ⟨[], .cons (F := []) (G := []) (by exact .nil) .nil⟩
 · by_cases h0 : len = 0
   · subst h0
     exact ⟨[], .cons (F := []) (G := []) (.empty (by simp)) .nil⟩
   · have hi : ∀ i, i < len → ∃ cs, W.cells? 0 (a.add (i * k)) k = some cs ∧ ∃ y : α, RelL W (fun b => b < W.heap.size) (fun _ => False) (enc y) cs [] := fun i hlt => by
      have := hat i hlt
      rw [hk, List.getElem?_eq_getElem (by omega)] at this
      obtain ⟨cs, h1, h2⟩ := Option.bind_eq_some_iff.1 this
      exact ⟨cs, h1, he.get en W sp hd n cs _ h2⟩
     have hsp : a.spot = none := by
      obtain ⟨cs, h1, _⟩ := hi 0 (by omega)
      obtain ⟨_, h2, h3⟩ := World.cells?_some h1
      have h3 := h3 0 hk0
      rw [List.getElem?_eq_getElem (by omega)] at h3
      have := World.cell?_spot h3
      simpa [Addr.add] using this
     obtain ⟨b, off, spot⟩ := a
     simp only at hsp; subst hsp
     have hcell : ∀ i, i < len → ∃ cs : List Value, cs.length = k ∧ (∀ j, j < k → W.cell? ⟨b, off + i * k + j, none⟩ = cs[j]?) ∧ ∃ y : α, RelL W (fun b => b < W.heap.size) (fun _ => False) (enc y) cs [] := fun i hlt => by
      obtain ⟨cs, h1, y, h2⟩ := hi i hlt
      obtain ⟨_, h3, h4⟩ := World.cells?_some h1
      refine ⟨cs, h3, fun j hj => ?_, y, h2⟩
      rw [← h4 j hj, add_off, add_off]
     have hheap : ∃ cur T fz, W.heap[b]? = some (.cells cur T fz) := by
      obtain ⟨cs, h1, h2, _⟩ := hcell 0 (by omega)
      have h2 := h2 0 hk0
      rw [List.getElem?_eq_getElem (by omega)] at h2
      cases hW : W.heap[b]? with
      | none => simp [World.cell?, hW] at h2
      | some o => cases o with
       | cells c T fz => exact ⟨c, T, fz, rfl⟩
       | _ => simp [World.cell?, hW] at h2
     obtain ⟨cur, T, fz, hb⟩ := hheap
     obtain ⟨l, hl, hp⟩ := opens_pick (p := fun i y => ∃ cs : List Value, cs.length = k ∧ (∀ j, j < k → cur[off + i * k + j]? = cs[j]?) ∧ RelL W (fun b => b < W.heap.size) (fun _ => False) (enc y) cs []) fun i hlt => by
      obtain ⟨cs, h1, h2, y, h3⟩ := hcell i hlt
      refine ⟨y, cs, h1, fun j hj => ?_, h3⟩
      rw [← h2 j hj, cell_of_row W b _ cur T fz hb]
     obtain ⟨r1, r2⟩ := opens_rows (f := f) hf l off hp
     refine ⟨l, .cons (F := []) (G := []) ?_ .nil⟩
     have hlen : (l.map f).length = len := by simpa using hl
     have := RelD.old (m := .ro) (k := k) (xs := l.map f) (c := cap) (w := W) (S := fun b => b < W.heap.size) (N := fun _ => False) (by simp) hb (fun _ => (Array.getElem?_eq_some_iff.1 hb).1) (by simp) (by rw [hlen]; exact hlc)
      (by intro x hx; obtain ⟨y, _, rfl⟩ := List.mem_map.1 hx; exact hfit y) rfl (by simpa using r2) (by simpa using r1)
     rw [hlen] at this
     exact this

theorem fs_nil {n off : Nat} (h : n ≤ off) : OpensFs P n [] off fun _ : Unit => [] := .mk fun e W sp hd fuel cs hl _ => ⟨(), by rw [List.drop_eq_nil_of_le (by omega)]; exact .nil⟩

theorem fs_cons {n off : Nat} {f : Field} {fs : List Field} {enc2 : β → List D} {size : Nat} (ho : f.offset = off) (hs : P.cellsOf f.type = size) (h1 : Opens P f.type enc) (h2 : OpensFs P n fs (off + size) enc2) :
    OpensFs P n (f :: fs) off fun p : α × β => enc p.1 ++ enc2 p.2 := .mk fun e W sp hd fuel cs hl h => by
 obtain ⟨x, hx⟩ := h f (by simp)
 obtain ⟨a, ha⟩ := h1.get e W sp hd fuel _ x hx
 obtain ⟨b, hb⟩ := h2.get e W sp hd fuel cs hl fun g hg => h g (by simp [hg])
 refine ⟨(a, b), ?_⟩
 have := RelL.append ha hb
 rw [ho, hs, show cs.drop (off + size) = (cs.drop off).drop size by rw [List.drop_drop], List.take_append_drop] at this
 exact this

theorem opens_struct {fs : Array Field} {n : Nat} (ht : P.underlying t = some (.struct fs)) (hn : P.cellsOf t = n) (h : OpensFs P n fs.toList 0 enc) : Opens P t enc := .mk fun e W sp hd fuel cs x hx => by
 obtain ⟨xs, m, _, _, hl, hxl, hf⟩ := DataW.trod_struct ht hx
 have := h.get e W sp hd m cs (by omega) fun f hfm => by
  obtain ⟨i, hi, rfl⟩ := List.getElem_of_mem hfm
  have := hf i fs.toList[i] (by rw [← Array.getElem?_toList]; simp [hi])
  rw [List.getElem?_eq_getElem (by simp at hi; omega)] at this
  exact ⟨_, this⟩
 simpa using this

theorem Opens.agg {b0 : Nat} {H : Type} {en : TypeId × Value → H} {W : World} {sp : Nat → Bool} {hd : Bool} {r : Reach} {v : Value} {d : DataW H} {ps : List MemPlace} {fs : Array Field} (h : Opens P t enc) (ht : P.underlying t = some (.struct fs))
    (hv : Value.okWide P W r b0 t v) (hx : DataW.Trod en P W 0 sp hd t v d ps) : ∃ a, RelD W (fun b => b < W.heap.size) (fun _ => False) (.agg (enc a)) v [] := by
 obtain ⟨fuel, hx⟩ := hx
 obtain ⟨a, ha⟩ := h.get en W sp hd fuel _ _ hx
 unfold Value.okWide at hv
 rw [ht] at hv
 obtain ⟨cs, rfl, _, _⟩ := hv
 have := RelD.agg ha
 simp only [Value.cells, Array.toArray_toList] at this
 exact ⟨a, this⟩

theorem Opens.cell {H : Type} {en : TypeId × Value → H} {W : World} {sp : Nat → Bool} {hd : Bool} {v : Value} {d : DataW H} {ps : List MemPlace} {f : α → D} (h : Opens P t fun a => [f a]) (hv : v.cells.toList = [v])
    (hx : DataW.Trod en P W 0 sp hd t v d ps) : ∃ a, RelD W (fun b => b < W.heap.size) (fun _ => False) (f a) v [] := by
 obtain ⟨fuel, hx⟩ := hx
 obtain ⟨a, ha⟩ := h.get en W sp hd fuel _ _ hx
 rw [hv] at ha
 refine ⟨a, ?_⟩
 generalize hF : ([] : List Nat) = F at ha
 cases ha with
 | @cons _ _ F1 _ _ F2 h1 t1 =>
  obtain ⟨rfl, rfl⟩ := List.append_eq_nil_iff.1 hF.symm
  exact h1

end
end Go.Awp
namespace Go.Awp
end Go.Awp
