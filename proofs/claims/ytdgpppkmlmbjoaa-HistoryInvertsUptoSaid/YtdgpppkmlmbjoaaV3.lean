/- An evaluator of this program's code over plain values, proved sound: part 3. -/
import Derived.Test.YtdgpppkmlmbjoaaV2
/- Typed values, and an evaluator over them that never waits for what it does not know. Definitions. -/
namespace Go.Ve
open Go.Vs
/-! ## Types of data -/
inductive Ty where
  | int (k : IntKind) | bool | str | sl (r : Ty) | pair (h t : Ty)
  deriving DecidableEq, Repr, Inhabited
@[reducible] def Ty.T : Ty → Type
  | .int _ => Int
  | .bool => Bool
  | .str => List UInt8
  | .sl r => Option (List r.T)
  | .pair h t => h.T × t.T
def Ty.w : Ty → Nat
  | .pair h t => h.w + t.w
  | _ => 1
def Ty.zero : (t : Ty) → t.T
  | .int _ => (0 : Int)
  | .bool => false
  | .str => ([] : List UInt8)
  | .sl r => (none : Option (List r.T))
  | .pair h t => (h.zero, t.zero)
def encR : (t : Ty) → t.T → List D
  | .int k, n => [.int k n]
  | .bool, b => [.bool b]
  | .str, s => [.str s]
  | .sl r, o => match o with
    | none => [.nil]
    | some xs => [.sl r.w (xs.map (encR r))]
  | .pair h t, x => encR h x.1 ++ encR t x.2
def lenI {α : Type} (l : List α) : Int := l.length
def byteI (b : UInt8) : Int := b.toNat
def bytesI (s : List UInt8) : List Int := s.map byteI
def ofBytesI (l : List Int) : List UInt8 := l.map fun n => UInt8.ofNat n.toNat
def andI (k : IntKind) (a b : Int) : Int := k.wrap ((BitVec.ofInt k.bits a &&& BitVec.ofInt k.bits b).toNat)
def orI (k : IntKind) (a b : Int) : Int := k.wrap ((BitVec.ofInt k.bits a ||| BitVec.ofInt k.bits b).toNat)
def xorI (k : IntKind) (a b : Int) : Int := k.wrap ((BitVec.ofInt k.bits a ^^^ BitVec.ofInt k.bits b).toNat)
def andNotI (k : IntKind) (a b : Int) : Int := k.wrap ((BitVec.ofInt k.bits a &&& ~~~(BitVec.ofInt k.bits b)).toNat)
/-! ## Values -/
inductive Md where
  | data | own | bor (q : Res) (j hv cv k : Nat)
  deriving DecidableEq
inductive E where
  | i (k : IntKind) (n : Int) | b (x : Bool) | tt | ff | s (x : List UInt8)
  | l (m : Md) (t : Ty) (xs : List t.T)
  | n (m : Md) (t : Ty) (o : Option (List t.T))
  | nil | nul (k : NK)
  | ea (q : Res) (j hv : Nat) (t : Ty) (n off : Nat)
  | da (t : Ty) (x : t.T) (off : Nat)
  | ptr (k : Key) (off : Nat)
  | clo (f : FuncId) (caps : List (Key × Nat))
  | dead
  /-- it was taken away (true), or it was nil and is nil (false) -/
  | gone (b : Bool)
instance : Inhabited E := ⟨.dead⟩
inductive SVE where
  | one (c : E) | agg (cs : List E) | tup (vs : List (Bool × List E)) | undef
instance : Inhabited SVE := ⟨.undef⟩
structure RVE where
  hv : Nat := 0
  cv : Nat := 0
  v : SVE := .undef
instance : Inhabited RVE := ⟨{}⟩
def lC (m : Md) (t : Ty) (xs : List t.T) : C :=
  match m with
  | .data => .d (.sl t.w (xs.map (encR t)))
  | .own => .own t.w (xs.map (encR t))
  | .bor q j hv cv k => .bor q j hv cv t.w k (xs.map (encR t))
def cE : E → C
  | .i k n => .d (.int k n)
  | .b x => .d (.bool x)
  | .tt => .d (.bool true)
  | .ff => .d (.bool false)
  | .s x => .d (.str x)
  | .l m t xs => lC m t xs
  | .n m t o => match o with
    | none => .d .nil
    | some xs => lC m t xs
  | .nil => .d .nil
  | .nul k => .d (.nul k)
  | .ea q j hv t n off => .ea q j hv t.w n off
  | .da t x off => .da ((encR t x).drop off)
  | .ptr k off => .ptr k off
  | .clo f caps => .clo f caps
  | .dead => .dead
  | .gone b => match b with
    | true => .dead
    | false => .d .nil
def cEs (l : List E) : List C := l.map cE
def cTup (l : List (Bool × List E)) : List (Bool × List C) := l.map fun p => (p.1, cEs p.2)
def cSV : SVE → SV
  | .one c => .one (cE c)
  | .agg cs => .agg (cEs cs)
  | .tup vs => .tup (cTup vs)
  | .undef => .undef
def cRV (x : RVE) : RV := { hv := x.hv, cv := x.cv, v := cSV x.v }
def SVE.cells : SVE → List E
  | .one c => [c]
  | .agg cs => cs
  | .tup vs => vs.flatMap (·.2)
  | .undef => []
def lset {α : Type} : List α → Nat → α → List α
  | [], _, _ => []
  | _ :: r, 0, c => c :: r
  | x :: r, j + 1, c => x :: lset r j c
def setTupE : List (Bool × List E) → Nat → E → List (Bool × List E)
  | [], _, _ => []
  | (b, cs) :: r, j, c => if j < cs.length then (b, lset cs j c) :: r else (b, cs) :: setTupE r (j - cs.length) c
def SVE.setCell (v : SVE) (j : Nat) (c : E) : SVE :=
  match v with
  | .one _ => if j = 0 then .one c else v
  | .agg cs => .agg (lset cs j c)
  | .tup vs => .tup (setTupE vs j c)
  | .undef => .undef
def keqb : Key → Key → Bool
  | .inb a, .inb b => a == b
  | .loc a, .loc b => a == b
  | .esc a i, .esc b j => a == b && i == j
  | _, _ => false
def reqb : Res → Res → Bool
  | .tmp a, .tmp b => a == b
  | .box a, .box b => keqb a b
  | .arg a, .arg b => a == b
  | _, _ => false
/-! ## States -/
def frz1E (v : SVE) (j : Nat) : SVE :=
  match v.cells.getD j .dead with
  | .l .own t ys => v.setCell j (.l .data t ys)
  | .n .own t o => v.setCell j (.n .data t o)
  | _ => v
def frzArgsE : List (Nat × Nat) → List SVE → List SVE
  | [], args => args
  | (i, j) :: r, args => frzArgsE r (lset args i (frz1E (args.getD i .undef) j))
structure ESt where
  m : List (Res × RVE)
  args : List SVE
  frz : List (Nat × Nat)
  /-- what has been written -/
  dirty : List (Res × Option (List Bool))
def lkR (r : Res) : List (Res × RVE) → RVE
  | [] => {}
  | (q, x) :: l => match reqb r q with
    | true => x
    | false => lkR r l
def updR (r : Res) (x : RVE) : List (Res × RVE) → List (Res × RVE)
  | [] => [(r, x)]
  | (q, y) :: l => match reqb r q with
    | true => (r, x) :: l
    | false => (q, y) :: updR r x l
def ESt.get (s : ESt) (r : Res) : RVE :=
  match r with
  | .arg i => { v := (frzArgsE s.frz s.args).getD i .undef }
  | r => lkR r s.m
def ESt.put (s : ESt) (r : Res) (x : RVE) : ESt := { s with m := updR r x s.m, dirty := (r, none) :: s.dirty }
/-- some cells of a box -/
def overE : List E → List (Option E) → List E
  | [], _ => []
  | cs, [] => cs
  | c :: cs, o :: os => (match o with | some x => x | none => c) :: overE cs os
def ESt.wr (s : ESt) (k : Key) (os : List (Option E)) : ESt :=
  let x := lkR (.box k) s.m
  { s with m := updR (.box k) { hv := x.hv + 1, cv := x.cv, v := match x.v with | .agg cs => .agg (overE cs os) | v => v } s.m, dirty := (.box k, some (os.map Option.isSome)) :: s.dirty }
def kb (b : Bool) : E := match b with | true => .tt | false => .ff
/-- what a branch has shown of a place -/
def ESt.know (s : ESt) (r : Res) (b : Bool) : ESt :=
  match r with
  | .tmp t => let x := lkR (.tmp t) s.m
    { s with m := updR (.tmp t) { x with v := .one (kb b) } s.m, dirty := (r, none) :: s.dirty }
  | _ => s
def cSt (s : ESt) : St := fun r => cRV (s.get r)
/-! ## Trees -/
inductive Tr (α : Type) : Type 1 where
  | leaf (a : α)
  | fail
  | br (c : Bool) (t e : Tr α)
  | call {ρ : Type} (d : ρ) (o : Option ρ) (k : ρ → Tr α)
  | sum {ρ σ : Type} (o : ρ ⊕ σ) (k : ρ → Tr α) (k' : σ → Tr α)
/-- what a call gives, handed on -/
def callO {ρ α : Type} (o : Option ρ) (k : ρ → Option α) : Option α :=
  match o with
  | some x => k x
  | none => none
def sumO {ρ σ α : Type} (o : ρ ⊕ σ) (k : ρ → Option α) (k' : σ → Option α) : Option α :=
  match o with
  | .inl x => k x
  | .inr x => k' x
namespace Tr
def bind {α β : Type} : Tr α → (α → Tr β) → Tr β
  | .leaf a, f => f a
  | .fail, _ => .fail
  | .br c t e, f => .br c (t.bind f) (e.bind f)
  | .call d o k, f => .call d o fun x => (k x).bind f
  | .sum o k k', f => .sum o (fun x => (k x).bind f) (fun x => (k' x).bind f)
def map {α β : Type} (f : α → β) : Tr α → Tr β
  | .leaf a => .leaf (f a)
  | .fail => .fail
  | .br c t e => .br c (t.map f) (e.map f)
  | .call d o k => .call d o fun x => (k x).map f
  | .sum o k k' => .sum o (fun x => (k x).map f) (fun x => (k' x).map f)
/-- what it gives -/
def run {α : Type} : Tr α → Option α
  | .leaf a => some a
  | .fail => none
  | .br c t e => if c = true then t.run else e.run
  | .call _ o k => callO o fun x => (k x).run
  | .sum o k k' => sumO o (fun x => (k x).run) fun x => (k' x).run
/-- it succeeds, and Q holds of what it gives -/
def all {α : Type} : Tr α → (α → Prop) → Prop
  | .leaf a, Q => Q a
  | .fail, _ => False
  | .br c t e, Q => (c = true → t.all Q) ∧ (c = false → e.all Q)
  | .call _ o k, Q => ∃ x, o = some x ∧ (k x).all Q
  | .sum o k k', Q => (∀ x, o = .inl x → (k x).all Q) ∧ (∀ x, o = .inr x → (k' x).all Q)
/-- where it succeeds, Q holds -/
def box {α : Type} : Tr α → (α → Prop) → Prop
  | .leaf a, Q => Q a
  | .fail, _ => True
  | .br c t e, Q => (c = true → t.box Q) ∧ (c = false → e.box Q)
  | .call _ o k, Q => ∀ x, o = some x → (k x).box Q
  | .sum o k k', Q => (∀ x, o = .inl x → (k x).box Q) ∧ (∀ x, o = .inr x → (k' x).box Q)
/-- Q holds at every leaf -/
def each {α : Type} : Tr α → (α → Prop) → Prop
  | .leaf a, Q => Q a
  | .fail, _ => True
  | .br _ t e, Q => t.each Q ∧ e.each Q
  | .call _ _ k, Q => ∀ x, (k x).each Q
  | .sum _ k k', Q => (∀ x, (k x).each Q) ∧ (∀ x, (k' x).each Q)
end Tr
/-! ## Programs -/
inductive PE (α : Type) : Type 1 where
  | ret (a : α)
  | fail
  | br (c : Bool) (t e : PE α)
  | call {ρ : Type} (d : ρ) (o : Option ρ) (k : ρ → PE α)
  | get (r : Res) (k : RVE → PE α)
  | put (r : Res) (x : RVE) (k : PE α)
  | frz (i j : Nat) (k : PE α)
  | know (r : Res) (b : Bool) (k : PE α)
  | wr (k : Key) (os : List (Option E)) (c : PE α)
def putOk (r : Res) (x : RVE) : Bool :=
  match r, x.v with
  | .arg _, _ => false
  | .box _, .agg _ => true
  | .box _, _ => false
  | .tmp _, _ => true
namespace PE
def bind {α β : Type} : PE α → (α → PE β) → PE β
  | .ret a, f => f a
  | .fail, _ => .fail
  | .br c t e, f => .br c (t.bind f) (e.bind f)
  | .call d o k, f => .call d o fun x => (k x).bind f
  | .get r k, f => .get r fun x => (k x).bind f
  | .put r x k, f => .put r x (k.bind f)
  | .frz i j k, f => .frz i j (k.bind f)
  | .know r b k, f => .know r b (k.bind f)
  | .wr k os c, f => .wr k os (c.bind f)
instance : Monad PE where
  pure := PE.ret
  bind := PE.bind
def both {α : Type} : PE α → ESt → Tr (α × ESt × List Res × List Res)
  | .ret a, s => .leaf (a, s, [], [])
  | .fail, _ => .fail
  | .br c t e, s => .br c (t.both s) (e.both s)
  | .call d o k, s => .call d o fun x => (k x).both s
  | .get r k, s => ((k (s.get r)).both s).map fun y => (y.1, y.2.1, r :: y.2.2.1, y.2.2.2)
  | .put r x k, s => match putOk r x with
    | false => .fail
    | true => (k.both (s.put r x)).map fun y => (y.1, y.2.1, y.2.2.1, r :: y.2.2.2)
  | .know r b k, s => k.both (s.know r b)
  | .wr k os c, s => (c.both (s.wr k os)).map fun y => (y.1, y.2.1, y.2.2.1, .box k :: y.2.2.2)
  | .frz i j k, s => (k.both { s with frz := s.frz ++ [(i, j)], dirty := (.arg i, none) :: s.dirty }).map fun y => (y.1, y.2.1, y.2.2.1, .arg i :: y.2.2.2)
end PE
def putE (r : Res) (x : RVE) : PE Unit := .put r x (.ret ())
/-- a condition on what is not known -/
def ask (c : Bool) : PE Unit := .br c (.ret ()) .fail
/-- a condition on what is known -/
def sure (c : Bool) : PE Unit := match c with | true => .ret () | false => .fail
/-! ## Reading -/
def cellsT : (t : Ty) → t.T → List E
  | .int k, n => [.i k n]
  | .bool, b => [.b b]
  | .str, s => [.s s]
  | .sl t, o => [.n .data t o]
  | .pair h t, x => cellsT h x.1 ++ cellsT t x.2
def takeT : (t : Ty) → List E → Option (t.T × List E)
  | .int k => fun cs => match cs with
    | .i k' n :: r => if k' = k then some (n, r) else none
    | _ => none
  | .bool => fun cs => match cs with
    | .b x :: r => some (x, r)
    | .tt :: r => some (true, r)
    | .ff :: r => some (false, r)
    | _ => none
  | .str => fun cs => match cs with
    | .s x :: r => some (x, r)
    | _ => none
  | .sl t => fun cs => match cs with
    | .n .data t' o :: r => if h : t' = t then some (h ▸ o, r) else none
    | .l .data t' xs :: r => if h : t' = t then some (some (h ▸ xs), r) else none
    | .nil :: r => some (none, r)
    | _ => none
  | .pair h t => fun cs => match takeT h cs with
    | some (x, r) => match takeT t r with
      | some (y, r') => some ((x, y), r')
      | none => none
    | none => none
def rowT (t : Ty) (cs : List E) : Option t.T :=
  match takeT t cs with
  | some (x, []) => some x
  | _ => none
def bcellE (r : Res) (x : RVE) (j : Nat) : E → E
  | .l .own t xs => .l (.bor r j x.hv x.cv 0) t xs
  | .n .own t o => .n (.bor r j x.hv x.cv 0) t o
  | c => c
def bcellsE (r : Res) (x : RVE) : Nat → List E → List E
  | _, [] => []
  | j, c :: cs => bcellE r x j c :: bcellsE r x (j + 1) cs
def btupE (r : Res) (x : RVE) : Nat → List (Bool × List E) → List (Bool × List E)
  | _, [] => []
  | j, (b, cs) :: vs => (b, bcellsE r x j cs) :: btupE r x (j + cs.length) vs
def RVE.copy (x : RVE) (r : Res) : SVE :=
  match x.v with
  | .one c => .one (bcellE r x 0 c)
  | .agg cs => .agg (bcellsE r x 0 cs)
  | .tup vs => .tup (btupE r x 0 vs)
  | .undef => .undef
def reflectE : Value → Option E
  | .int k n => some (.i k n)
  | .bool b => some (match b with | true => .tt | false => .ff)
  | .string s => some (.s s.data.toList)
  | .slice none 0 0 => some .nil
  | .pointer none => some (.nul .ptr)
  | .nilFunc => some (.nul .func)
  | .nilIface => some (.nul .iface)
  | .map none => some (.nul .map)
  | .chan none => some (.nul .chan)
  | _ => none
def reflectAllE : List Value → Option (List E)
  | [] => some []
  | v :: r => match reflectE v, reflectAllE r with
    | some d, some ds => some (d :: ds)
    | _, _ => none
def evE : Operand → PE SVE
  | .tmp t => .get (.tmp t) fun x => match x.v with
    | .undef => .fail
    | _ => .ret (x.copy (.tmp t))
  | .const v => match v with
    | .agg cs => match reflectAllE cs.toList with
      | some ds => .ret (.agg ds)
      | none => .fail
    | v => match reflectE v with
      | some d => .ret (.one d)
      | none => .fail
  | .func f => .ret (.one (.clo f []))
  | .global _ => .fail
def evsE : List Operand → PE (List SVE)
  | [] => .ret []
  | o :: os => do let v ← evE o; let vs ← evsE os; .ret (v :: vs)
def asOneE : SVE → PE E
  | .one c => .ret c
  | _ => .fail
def ev1E (o : Operand) : PE E := do asOneE (← evE o)
def cIntE : E → PE Int
  | .i _ n => .ret n
  | _ => .fail
def boolOf : E → Option Bool
  | .b b => some b
  | .tt => some true
  | .ff => some false
  | _ => none
def RVE.at (x : RVE) (j : Nat) : E := x.v.cells.getD j .dead
def freezeAtE (r : Res) (j : Nat) (x : RVE) : PE Unit :=
  match x.at j with
  | .l .own t ys => match r with
    | .arg i => .frz i j (.ret ())
    | r => putE r { x with v := x.v.setCell j (.l .data t ys) }
  | .n .own t o => match r with
    | .arg _ => .fail
    | r => .call [] o fun ys => putE r { x with v := x.v.setCell j (.l .data t ys) }
  | .l .data _ _ => .ret ()
  | .n .data _ o => .call [] o fun _ => .ret ()
  | _ => .fail
def takeAtE (r : Res) (j : Nat) (x : RVE) : PE Unit :=
  match x.at j with
  | .l .own _ _ => putE r { x with v := x.v.setCell j .dead }
  | .n .own _ o => .call [] o fun _ => putE r { x with v := x.v.setCell j .dead }
  | _ => .fail
/-- a list that may be nil: both cases -/
def resolve : E → PE E
  | .n m t o => .br o.isSome (.ret (.l m t (o.getD []))) (.ret .nil)
  | c => .ret c
def resolveB : E → PE E
  | .n (.bor q j hv cv k) t o => .br o.isSome (.ret (.l (.bor q j hv cv k) t (o.getD []))) (.ret .nil)
  | c => .ret c
/-- only a list of the function's own arguments: both cases -/
def resolveA : E → PE E
  | .n (.bor (.arg i) j hv cv k) t o => .br o.isSome (.ret (.l (.bor (.arg i) j hv cv k) t (o.getD []))) (.ret .nil)
  | c => .ret c
/-- a list that may be nil (b: it is not), where it lies: from now on it is data -/
def freezeNE (r : Res) (j : Nat) (x : RVE) (b : Bool) : PE Unit :=
  match x.at j with
  | .n .own t o => match r with
    | .arg _ => .fail
    | r => .br (b == o.isSome) (putE r { x with v := x.v.setCell j (.n .data t o) }) .fail
  | .n .data _ o => .br (b == o.isSome) (.ret ()) .fail
  | _ => .fail
/-- it is taken away -/
def takeNE (r : Res) (j : Nat) (x : RVE) (b : Bool) : PE Unit :=
  match x.at j with
  | .n .own _ o => .br (b == o.isSome) (putE r { x with v := x.v.setCell j (.gone o.isSome) }) .fail
  | _ => .fail
/-- it is there still -/
def aliveNE (j : Nat) (x : RVE) (b : Bool) : PE Unit :=
  match x.at j with
  | .n .own _ o | .n .data _ o => .br (b == o.isSome) (.ret ()) .fail
  | _ => .fail
def selfIs (self : Option (Res × Nat)) (r : Res) (j : Nat) : Bool :=
  match self with
  | some (q, i) => reqb q r && i == j
  | none => false
def stash1E (self : Option (Res × Nat)) (take : Res → Bool) : E → PE E
  | .l (.bor r j hv cv k) t xs =>
    match r.isArg with
    | true => .ret (.l (.bor r j hv cv k) t xs)
    | false => .get r fun x => do
      sure (x.hv == hv && x.cv == cv)
      match x.at j with
      | .l .own _ _ | .n .own _ _ =>
        match selfIs self r j || take r with
        | true => do takeAtE r j x; .ret (.l .own t xs)
        | false => do freezeAtE r j x; .ret (.l .data t xs)
      | .l .data _ _ => .ret (.l .data t xs)
      | .n .data _ o => .call [] o fun _ => .ret (.l .data t xs)
      | _ => .fail
  | .n (.bor r j hv cv k) t o =>
    match r.isArg with
    | true => .ret (.n (.bor r j hv cv k) t o)
    | false => .get r fun x => do
      sure (x.hv == hv && x.cv == cv)
      match x.at j with
      | .n .own _ _ =>
        match selfIs self r j || take r with
        | true => do takeNE r j x o.isSome; .ret (.n .own t o)
        | false => do freezeNE r j x o.isSome; .ret (.n .data t o)
      | .n .data _ _ => do aliveNE j x o.isSome; .ret (.n .data t o)
      | _ => .fail
  | .dead => .fail
  | .gone _ => .fail
  | c => .ret c
def stashE (self : Option (Res × Nat)) (take : Res → Bool) (c : E) : PE E := stash1E self take c
def stashesE (mk : Nat → Res × Nat) (take : Res → Bool) : Nat → List E → PE (List E)
  | _, [] => .ret []
  | i, c :: cs => do let c' ← stashE (some (mk i)) take c; let cs' ← stashesE mk take (i + 1) cs; .ret (c' :: cs')
def stashTupE (mk : Nat → Res × Nat) (take : Res → Bool) : Nat → List (Bool × List E) → PE (List (Bool × List E))
  | _, [] => .ret []
  | i, (b, cs) :: vs => do let cs' ← stashesE mk take i cs; let vs' ← stashTupE mk take (i + cs.length) vs; .ret ((b, cs') :: vs')
def stashSVE (r : Res) (take : Res → Bool) : SVE → PE SVE
  | .one c => do .ret (.one (← stashE (some (r, 0)) take c))
  | .agg cs => do .ret (.agg (← stashesE (fun i => (r, i)) take 0 cs))
  | .tup vs => do .ret (.tup (← stashTupE (fun i => (r, i)) take 0 vs))
  | .undef => .fail
def isData : E → Bool
  | .i _ _ | .b _ | .tt | .ff | .s _ | .l .data _ _ | .n .data _ _ | .nil | .nul _ => true
  | _ => false
def toD1E : E → PE E
  | .l (.bor r j hv cv _) t xs => .get r fun x => do
      sure (x.hv == hv && x.cv == cv)
      freezeAtE r j x
      .ret (.l .data t xs)
  | .n (.bor r j hv cv _) t o => .get r fun x => do
      sure (x.hv == hv && x.cv == cv)
      freezeNE r j x o.isSome
      .ret (.n .data t o)
  | c => match isData c with
    | true => .ret c
    | false => .fail
def toDE (c : E) : PE E := do toD1E (← resolveA c)
def toDsE : List E → PE (List E)
  | [] => .ret []
  | c :: cs => do let x ← toDE c; let xs ← toDsE cs; .ret (x :: xs)
def SVE.asCells : SVE → Option (List E)
  | .one c => some [c]
  | .agg cs => some cs
  | _ => none
/-- the elements of a slice, read now -/
def elems1E (t : Ty) : E → PE (List t.T)
  | .nil => .ret []
  | .l .data t' xs => if h : t' = t then .ret (h ▸ xs) else .fail
  | .n .data t' o => if h : t' = t then .ret ((h ▸ o : Option (List t.T)).getD []) else .fail
  | .l (.bor r j hv cv _) t' xs => .get r fun x =>
    match x.hv == hv && x.cv == cv with
    | true => match x.at j with
      | .l .own _ _ | .l .data _ _ => if h : t' = t then .ret (h ▸ xs) else .fail
      | .n .own _ o | .n .data _ o => .call [] o fun _ => if h : t' = t then .ret (h ▸ xs) else .fail
      | _ => .fail
    | false => .fail
  | .n (.bor r j hv cv _) t' o => .get r fun x =>
    match x.hv == hv && x.cv == cv with
    | true => do
      aliveNE j x o.isSome
      if h : t' = t then .ret ((h ▸ o : Option (List t.T)).getD []) else .fail
    | false => .fail
  | _ => .fail
def elemsE (t : Ty) (c : E) : PE (List t.T) := elems1E t c
/-! ## Operations -/
def dintE (k : IntKind) (n : Int) : SVE := .one (.i k n)
def dboolE (b : Bool) : SVE := .one (.b b)
def binIntE (op : BinOp) (k : IntKind) (a b : Int) : PE SVE :=
  match op with
  | .add => .ret (dintE k (k.wrap (a + b)))
  | .sub => .ret (dintE k (k.wrap (a - b)))
  | .mul => .ret (dintE k (k.wrap (a * b)))
  | .quo => do ask (decide (b ≠ 0)); .ret (dintE k (k.wrap (a.tdiv b)))
  | .rem => do ask (decide (b ≠ 0)); .ret (dintE k (a.tmod b))
  | .and => .ret (dintE k (andI k a b))
  | .or => .ret (dintE k (orI k a b))
  | .xor => .ret (dintE k (xorI k a b))
  | .andNot => .ret (dintE k (andNotI k a b))
  | .eql => .ret (dboolE (a == b))
  | .neq => .ret (dboolE (a != b))
  | .lss => .ret (dboolE (decide (a < b)))
  | .leq => .ret (dboolE (decide (a ≤ b)))
  | .gtr => .ret (dboolE (decide (a > b)))
  | .geq => .ret (dboolE (decide (a ≥ b)))
  | _ => .fail
def binStrE (op : BinOp) (a b : List UInt8) : PE SVE :=
  match op with
  | .add => do ask (decide (a.length + b.length ≤ 1152921504606846976)); .ret (.one (.s (a ++ b)))
  | .eql => .ret (dboolE (decide (a = b)))
  | .neq => .ret (dboolE (!decide (a = b)))
  | .lss => .ret (dboolE (Op.bytesLess a b))
  | .leq => .ret (dboolE (Op.bytesLess a b || decide (a = b)))
  | .gtr => .ret (dboolE (!(Op.bytesLess a b || decide (a = b))))
  | .geq => .ret (dboolE (!Op.bytesLess a b))
  | _ => .fail
def ECfgBool (cfg : Cfg) (t : TypeId) : Bool :=
  match cfg.ti t with
  | some { kind := .bool, .. } => true
  | _ => false
def binBoolE (cfg : Cfg) (t : TypeId) (op : BinOp) (x y : E) : PE SVE :=
  match boolOf x, boolOf y with
  | some a, some b => match ECfgBool cfg t, op with
    | true, .eql => .ret (dboolE (a == b))
    | true, .neq => .ret (dboolE (!(a == b)))
    | _, _ => .fail
  | _, _ => .fail
def nilE : E → Option Bool
  | .l _ _ _ => some false
  | .n _ _ o => some (!o.isSome)
  | .nil => some true
  | _ => none
def isSlT (cfg : Cfg) (t : TypeId) : Bool :=
  match cfg.ti t with
  | some { kind := .slice _, .. } => true
  | _ => false
def binNilE (cfg : Cfg) (t : TypeId) (op : BinOp) (x : E) : PE SVE :=
  match isSlT cfg t, op, nilE x with
  | true, .eql, some b => .ret (dboolE b)
  | true, .neq, some b => .ret (dboolE (!b))
  | _, _, _ => .fail
def binE (cfg : Cfg) (t : TypeId) (op : BinOp) (x y : E) : PE SVE :=
  match x, y with
  | .i k a, .i k' b =>
    match op with
    | .shl => do ask (decide (0 ≤ b)); .ret (dintE k (k.wrap (a * 2 ^ (min b.toNat k.bits))))
    | .shr => do ask (decide (0 ≤ b)); .ret (dintE k (a.fdiv (2 ^ (min b.toNat k.bits))))
    | op => if k = k' then binIntE op k a b else .fail
  | .s a, .s b => binStrE op a b
  | x, .nil => binNilE cfg t op x
  | x, y => binBoolE cfg t op x y
def eqEs : List Sc → List E → List E → Option Bool
  | [], [], [] => some true
  | .int k :: sh, .i k1 a :: xs, .i k2 b :: ys => if k1 = k ∧ k2 = k then (match eqEs sh xs ys with | some r => some ((a == b) && r) | none => none) else none
  | .str :: sh, .s a :: xs, .s b :: ys => match eqEs sh xs ys with | some r => some (decide (a = b) && r) | none => none
  | .bool :: sh, x :: xs, y :: ys => match boolOf x, boolOf y, eqEs sh xs ys with | some a, some b, some r => some ((a == b) && r) | _, _, _ => none
  | _, _, _ => none
def eqAggE (cfg : Cfg) (t : TypeId) (op : BinOp) (xs ys : List E) : PE SVE :=
  match lk t cfg.eqs with
  | some sh => match op, eqEs sh xs ys with
    | .eql, some r => .ret (dboolE r)
    | .neq, some r => .ret (dboolE (!r))
    | _, _ => .fail
  | none => .fail
def nlt (a b : Nat) : Bool := Nat.ble (a + 1) b
def slice1E (i : TI) (cs : List E) (off : Nat) : PE SVE :=
  match nlt 0 i.size && Nat.ble (off + i.size) cs.length with
  | true => match i.kind.agg with
    | true => .ret (.agg ((cs.drop off).take i.size))
    | false => match cs[off]? with
      | some .dead => .fail
      | some (.gone _) => .fail
      | some c => .ret (.one c)
      | none => .fail
  | false => .fail
def loadE (i : TI) : E → PE SVE
  | .ptr k off => .get (.box k) fun x =>
    match x.v with
    | .agg cs => slice1E i (bcellsE (.box k) x 0 cs) off
    | _ => .fail
  | .ea r j hv _ n off => .get r fun x =>
    match x.hv == hv with
    | true => match x.at j with
      | .l .own t ys | .l .data t ys => do ask (nlt n ys.length); slice1E i (cellsT t (ys.getD n t.zero)) off
      | .n .own t o | .n .data t o => do ask (nlt n (o.getD []).length); slice1E i (cellsT t ((o.getD []).getD n t.zero)) off
      | _ => .fail
    | false => .fail
  | .da t x off => slice1E i ((cellsT t x).drop off) 0
  | _ => .fail
def storeE (take : Res → Bool) (i : TI) (a : E) (v : SVE) : PE Unit :=
  match a, v.asCells with
  | .ptr k off, some cs => do
    sure (cs.length == i.size)
    let cs' ← stashesE (fun n => (.box k, off + n)) take 0 cs
    .get (.box k) fun x =>
      match x.v with
      | .agg old => do
        sure (Nat.ble (off + i.size) old.length && Nat.ble (off + cs'.length) old.length)
        .wr k (List.replicate off none ++ cs'.map some) (.ret ())
      | _ => .fail
  | .ea r j hv _ n off, some cs => do
    sure (cs.length == i.size)
    let ds ← toDsE cs
    .get r fun x => do
      sure (x.hv == hv && !r.isArg)
      match x.at j with
      | .l .own t ys => do
        ask (nlt n ys.length)
        sure (Nat.ble (off + i.size) t.w)
        match rowT t (splice (cellsT t (ys.getD n t.zero)) off ds) with
        | some row' => putE r { x with cv := x.cv + 1, v := x.v.setCell j (.l .own t (ys.set n row')) }
        | none => .fail
      | .n .own t o => do
        ask (nlt n (o.getD []).length)
        sure (Nat.ble (off + i.size) t.w)
        match rowT t (splice (cellsT t ((o.getD []).getD n t.zero)) off ds) with
        | some row' => putE r { x with cv := x.cv + 1, v := x.v.setCell j (.l .own t ((o.getD []).set n row')) }
        | none => .fail
      | _ => .fail
  | _, _ => .fail
def fieldE (cfg : Cfg) (t : TypeId) (c : E) (f : Nat) : PE E :=
  match cfg.ti t with
  | some { kind := .struct fs, .. } => match fs[f]? with
    | some (o, ft) => match cfg.ti ft with
      | some i => do
        sure (!(i.size == 0))
        match c with
        | .ptr k off => .ret (.ptr k (off + o))
        | .ea r j hv e n off => .ret (.ea r j hv e n (off + o))
        | .da t x off => do sure (Nat.ble (off + o) t.w); .ret (.da t x (off + o))
        | _ => .fail
      | none => .fail
    | none => .fail
  | _ => .fail
def indexAddrE (cfg : Cfg) (t : TypeId) (c : E) (n : Int) : PE E :=
  match cfg.ti t with
  | some { kind := .slice et, .. } => match cfg.ti et with
    | some i => match c with
      | .l (.bor r j hv _ k) t xs => do ask (decide (0 ≤ n ∧ n < lenI xs)); sure (i.size == t.w); .ret (.ea r j hv t (k + n.toNat) 0)
      | .n (.bor r j hv _ k) t o => do ask (decide (0 ≤ n ∧ n < lenI (o.getD []))); sure (i.size == t.w); .ret (.ea r j hv t (k + n.toNat) 0)
      | .l .data t xs => do ask (decide (0 ≤ n ∧ n < lenI xs)); sure (i.size == t.w); .ret (.da t (xs.getD n.toNat t.zero) 0)
      | .n .data t o => do ask (decide (0 ≤ n ∧ n < lenI (o.getD []))); sure (i.size == t.w); .ret (.da t ((o.getD []).getD n.toNat t.zero) 0)
      | _ => .fail
    | none => .fail
  | some { kind := .array len et, .. } => match cfg.ti et with
    | some i => match c with
      | .ptr k off => do sure (decide (0 ≤ n ∧ n < len)); .ret (.ptr k (off + n.toNat * i.size))
      | _ => .fail
    | none => .fail
  | _ => .fail
def indexE (cfg : Cfg) (t : TypeId) (v : SVE) (n : Int) : PE SVE :=
  match cfg.ti t, v with
  | some { kind := .str, .. }, .one (.s s) => do
    ask (decide (0 ≤ n))
    ask (nlt n.toNat s.length)
    .ret (dintE .u8 (byteI (s.getD n.toNat 0)))
  | some { kind := .array len et, .. }, .agg cs => match cfg.ti et with
    | some i => do sure (decide (0 ≤ n ∧ n < len)); slice1E i cs (n.toNat * i.size)
    | none => .fail
  | _, _ => .fail
def lenE (isStr : Bool) (v : SVE) : PE SVE :=
  match isStr, v with
  | true, .one (.s s) => .ret (dintE .i64 (lenI s))
  | false, .one .nil => .ret (dintE .i64 0)
  | false, .one (.l .data _ xs) => .ret (dintE .i64 (lenI xs))
  | false, .one (.l (.bor ..) _ xs) => .ret (dintE .i64 (lenI xs))
  | false, .one (.n .data _ o) => .ret (dintE .i64 (lenI (o.getD [])))
  | false, .one (.n (.bor ..) _ o) => .ret (dintE .i64 (lenI (o.getD [])))
  | _, _ => .fail
def fillE (cells : List E) : List (Nat × List E) → List E
  | [] => cells
  | (off, cs) :: r => fillE (splice cells off cs) r
def partsOfE (fs : List (Nat × TypeId)) (cfg : Cfg) : List (Nat × Operand) → PE (List (Nat × List E))
  | [] => .ret []
  | (i, o) :: r => do
    let v ← evE o
    match fs[i]?, v.asCells with
    | some (off, t), some cs => match cfg.ti t with
      | some ti => do sure (cs.length == ti.size); let rest ← partsOfE fs cfg r; .ret ((off, cs) :: rest)
      | none => .fail
    | _, _ => .fail
def ofD : D → Option E
  | .int k n => some (.i k n)
  | .bool b => some (match b with | true => .tt | false => .ff)
  | .str s => some (.s s)
  | .nil => some .nil
  | .nul k => some (.nul k)
  | _ => none
def ofDs : List D → Option (List E)
  | [] => some []
  | d :: ds => match ofD d, ofDs ds with
    | some c, some cs => some (c :: cs)
    | _, _ => none
def fits (size : Nat) (ps : List (Nat × List E)) : Bool := ps.all fun p => Nat.ble (p.1 + p.2.length) size
def buildE (cfg : Cfg) (t : TypeId) (parts : List (Nat × Operand)) : PE SVE :=
  match cfg.ti t with
  | some { kind := .struct fs, size, zero := some z, .. } => do
    sure (z.length == size && fs.all fun p => (cfg.ti p.2).isSome)
    let ps ← partsOfE fs cfg parts
    sure (fits size ps)
    match ofDs z with
    | some cs => .ret (.agg (fillE cs ps))
    | none => .fail
  | some { kind := .array n et, size, zero := some z, .. } => match cfg.ti et with
    | some i => do
      sure (z.length == size)
      let ps ← partsOfE ((List.range n).map fun j => (j * i.size, et)) cfg parts
      sure (fits size ps)
      match ofDs z with
      | some cs => .ret (.agg (fillE cs ps))
      | none => .fail
    | none => .fail
  | _ => .fail
def unS : List (Option E) → List E
  | [] => []
  | o :: os => (match o with | some x => x | none => .dead) :: unS os
def newBoxes : List (List E) → List (List (Option E)) → List (List E)
  | [], os => os.map unS
  | b :: bs, o :: os => overE b o :: newBoxes bs os
  | bs, [] => bs
structure Con : Type 1 where
  A : Type
  R : Type
  d : R
  mat : List SVE → List (List E) → Option A
  sh : A → Option R
  out : A → R → SVE × List (List (Option E))
  frz : List (Nat × Nat)
  F : AFun
  ok : ∀ args boxes x y, mat args boxes = some x → sh x = some y → F (args.map cSV) (boxes.map cEs) = some { v := cSV (out x y).1, boxes := (newBoxes boxes (out x y).2).map cEs, frz := frz }
structure ECfg where
  N : Nat
  T : List (TypeId × TI)
  R : List (TypeId × Ty)
  con : Nat → FuncId → Option Con
  var : List Nat
  res : List Nat
  eqs : List (TypeId × List Sc) := []
  dat : List Nat := []
  outd : Bool := false
def ECfg.c (e : ECfg) : Cfg := { N := e.N, T := e.T, Γ := fun t f => match e.con t f with | some K => some K.F | none => none, var := e.var, res := e.res, eqs := e.eqs, dat := e.dat, outd := e.outd }
def zeroOk : Ty → List D → Option (List D)
  | .int k, .int k' n :: r => if k = k' ∧ n = 0 then some r else none
  | .bool, .bool b :: r => if b = false then some r else none
  | .str, .str s :: r => match s with | [] => some r | _ => none
  | .sl _, .nil :: r => some r
  | .pair h t, ds => match zeroOk h ds with | some r => zeroOk t r | none => none
  | _, _ => none
def zeroIs (t : Ty) (z : List D) : Bool := match zeroOk t z with | some [] => true | _ => false
def rowsOfE (t : Ty) (size : Nat) : List (Nat × Operand) → List t.T → PE (List t.T)
  | [], rows => .ret rows
  | (i, o) :: r, rows => do
    let v ← evE o
    match v.asCells with
    | some cs => do
      sure (cs.length == size && nlt i rows.length)
      let ds ← toDsE cs
      match rowT t ds with
      | some x => rowsOfE t size r (lset rows i x)
      | none => .fail
    | none => .fail
def buildSliceE (cfg : ECfg) (t : TypeId) (len : Nat) (parts : List (Nat × Operand)) : PE SVE :=
  match cfg.c.ti t with
  | some { kind := .slice et, .. } => match cfg.c.ti et, lk et cfg.R with
    | some i, some ty => match i.zero with
      | some z => do
        sure (z.length == i.size && nlt 0 i.size && Nat.ble (len * i.size) 16777216 && i.size == ty.w && zeroIs ty z)
        let rows ← rowsOfE ty i.size parts (List.replicate len ty.zero)
        .ret (.one (.l .own ty rows))
      | none => .fail
    | _, _ => .fail
  | _ => .fail
def makeSliceE (cfg : ECfg) (t : TypeId) (len cap : Int) : PE SVE :=
  match cfg.c.ti t with
  | some { kind := .slice et, .. } => match cfg.c.ti et, lk et cfg.R with
    | some i, some ty => match i.zero with
      | some z => do
        sure (z.length == i.size && nlt 0 i.size && Nat.ble i.bytes 1024 && i.size == ty.w && zeroIs ty z)
        ask (decide (0 ≤ len ∧ len ≤ cap ∧ cap ≤ 68719476736))
        .ret (.one (.l .own ty (List.replicate len.toNat ty.zero)))
      | none => .fail
    | _, _ => .fail
  | _ => .fail
def optL {α : Type} (ys : List α) : Option (List α) := match ys with
  | [] => none
  | y :: r => some (y :: r)
def append1E (i : TI) (t : Ty) (c : E) (ys : List t.T) (lit : Bool) : PE SVE := do
  sure (nlt 0 i.size && nlt 0 i.bytes && Nat.ble i.bytes 1024 && (match i.zero with | some z => z.length == i.size | none => false) && i.size == t.w)
  match c with
  | .nil => do
    ask (decide (ys.length ≤ 68719476736))
    .ret (.one (match lit with
      | true => (match ys with | [] => .n .own t (optL ys) | y :: r => .l .own t (y :: r))
      | false => .n .own t (optL ys)))
  | .l (.bor r j hv cv k) t' xs => .get r fun x => do
    sure (x.hv == hv && x.cv == cv && !r.isArg)
    match x.at j with
    | .l .own _ zs => do
      ask (decide (k + xs.length = zs.length))
      ask (decide (xs.length + ys.length ≤ 68719476736))
      takeAtE r j x
      if h : t' = t then .ret (.one (.l .own t ((h ▸ xs) ++ ys))) else .fail
    | .n .own _ o => .call [] o fun zs => do
      ask (decide (k + xs.length = zs.length))
      ask (decide (xs.length + ys.length ≤ 68719476736))
      takeAtE r j x
      if h : t' = t then .ret (.one (.l .own t ((h ▸ xs) ++ ys))) else .fail
    | _ => .fail
  | _ => .fail
/-- something behind a list that may be nil -/
def appL {α : Type} (o : Option (List α)) (ys : List α) : Option (List α) := match o with
  | none => optL ys
  | some xs => some (xs ++ ys)
def appendNE (i : TI) (t : Ty) (r : Res) (j hv cv k : Nat) (t' : Ty) (o : Option (List t'.T)) (ys : List t.T) (lit : Bool) : PE SVE := do
  sure (nlt 0 i.size && nlt 0 i.bytes && Nat.ble i.bytes 1024 && (match i.zero with | some z => z.length == i.size | none => false) && i.size == t.w)
  .get r fun x => do
    sure (x.hv == hv && x.cv == cv && !r.isArg)
    match x.at j with
    | .n .own _ o' => do
      ask (decide (k + (o.getD []).length = (o'.getD []).length))
      ask (decide ((o.getD []).length + ys.length ≤ 68719476736))
      takeNE r j x o.isSome
      if h : t' = t then .ret (.one (match lit, ys with
        | true, y :: q => .l .own t (((h ▸ o : Option (List t.T)).getD []) ++ y :: q)
        | _, _ => .n .own t (appL (h ▸ o) ys))) else .fail
    | _ => .fail
def appendE (i : TI) (t : Ty) (c : E) (ys : List t.T) (lit : Bool) : PE SVE :=
  match c with
  | .n (.bor r j hv cv k) t' o => appendNE i t r j hv cv k t' o ys lit
  | c => do append1E i t (← resolve c) ys lit
/-- a list that was built here: it is known how long it is -/
def isLit (var : List Nat) : E → Bool
  | .l .own _ _ => true
  | .l (.bor (.tmp t) _ _ _ _) _ _ => !(var.contains t)
  | _ => false
def addedE (cfg : Cfg) (i : TI) (t : Ty) (tid : TypeId) (c : E) : PE (List t.T) :=
  match cfg.ti tid with
  | some { kind := .str, .. } => match c with
    | .s s => if h : Ty.int .u8 = t then do sure (i.size == 1); .ret (h ▸ (bytesI s : List (Ty.int .u8).T)) else .fail
    | _ => .fail
  | some { kind := .slice _, .. } => do sure (i.size == t.w); elemsE t c
  | _ => .fail
def capE (c : E) : PE SVE :=
  match c with
  | .nil => .ret (dintE .i64 0)
  | .n _ _ o => do ask (!o.isSome); .ret (dintE .i64 0)
  | _ => .fail
def appendMakeE (i : TI) (t : Ty) (c : E) (n : Int) : PE SVE :=
  match i.zero with
  | some z => do
    sure (z.length == i.size && nlt 0 i.size && nlt 0 i.bytes && Nat.ble i.bytes 1024 && i.size == t.w && zeroIs t z)
    match c with
    | .nil => do
      ask (decide (0 ≤ n ∧ n ≤ 68719476736))
      .ret (.one (.n .own t (optL (List.replicate n.toNat t.zero))))
    | .n _ _ o => do
      ask (!o.isSome && decide (0 ≤ n ∧ n ≤ 68719476736))
      .ret (.one (.n .own t (optL (List.replicate n.toNat t.zero))))
    | _ => .fail
  | none => .fail
def subL {α : Type} (l h : Int) (xs : List α) : List α := (xs.take h.toNat).drop l.toNat
def subStrE (v : SVE) (lo hi : Option Int) : PE SVE :=
  match v with
  | .one (.s s) =>
    let h := hi.getD (lenI s)
    let l := lo.getD 0
    do
    ask (decide (0 ≤ l ∧ l ≤ h ∧ h ≤ lenI s))
    .ret (.one (.s (subL l h s)))
  | _ => .fail
def subSlE (size : Nat) (v : SVE) (lo hi : Option Int) : PE SVE :=
  match v with
  | .one .nil => do
    ask (decide (lo.getD 0 = 0 ∧ hi.getD 0 = 0))
    .ret (.one .nil)
  | .one (.l .data t xs) => do
    ask (decide (0 ≤ lo.getD 0 ∧ lo.getD 0 ≤ hi.getD (lenI xs) ∧ hi.getD (lenI xs) ≤ lenI xs))
    sure (t.w == size)
    .ret (.one (.l .data t (subL (lo.getD 0) (hi.getD (lenI xs)) xs)))
  | .one (.n .data t o) => do
    ask (decide (0 ≤ lo.getD 0 ∧ lo.getD 0 ≤ hi.getD (lenI (o.getD [])) ∧ hi.getD (lenI (o.getD [])) ≤ lenI (o.getD [])))
    sure (t.w == size)
    .ret (.one (.n .data t (o.map (subL (lo.getD 0) (hi.getD (lenI (o.getD [])))))))
  | .one (.l (.bor r j hv cv k) t xs) => do
    ask (decide (0 ≤ lo.getD 0 ∧ lo.getD 0 ≤ hi.getD (lenI xs) ∧ hi.getD (lenI xs) ≤ lenI xs))
    sure (t.w == size)
    .ret (.one (.l (.bor r j hv cv (k + (lo.getD 0).toNat)) t (subL (lo.getD 0) (hi.getD (lenI xs)) xs)))
  | .one (.n (.bor r j hv cv k) t o) => do
    ask (decide (0 ≤ lo.getD 0 ∧ lo.getD 0 ≤ hi.getD (lenI (o.getD [])) ∧ hi.getD (lenI (o.getD [])) ≤ lenI (o.getD [])))
    sure (t.w == size)
    .ret (.one (.n (.bor r j hv cv (k + (lo.getD 0).toNat)) t (o.map (subL (lo.getD 0) (hi.getD (lenI (o.getD [])))))))
  | _ => .fail
def isBytes (cfg : Cfg) (et : TypeId) : Bool :=
  match cfg.ti et with
  | some { kind := .int .u8, size := 1, .. } => true
  | _ => false
def convertE (cfg : Cfg) (src dst : TypeId) (v : SVE) : PE SVE :=
  match cfg.ti src, cfg.ti dst with
  | some _, some { kind := .int k, .. } => match v with
    | .one (.i _ n) => .ret (dintE k (k.wrap n))
    | _ => .fail
  | some i, some { kind := .str, .. } => match v with
    | .one (.s s) => .ret (.one (.s s))
    | .one c => match i.kind with
      | .slice et => match isBytes cfg et with
        | true => do
          let xs ← elemsE (.int .u8) c
          .ret (.one (.s (ofBytesI xs)))
        | false => .fail
      | _ => .fail
    | _ => .fail
  | some _, some { kind := .slice et, .. } => match v with
    | .one (.s s) => match isBytes cfg et with
      | true => .ret (.one (.l .own (.int .u8) (bytesI s)))
      | false => .fail
    | _ => .fail
  | _, _ => .fail
/-! ## Calls -/
def keysOfE : List E → List Key
  | [] => []
  | .ptr k _ :: cs => k :: keysOfE cs
  | .clo _ caps :: cs => caps.map (·.1) ++ keysOfE cs
  | _ :: cs => keysOfE cs
def prep1E (cfg : Cfg) : E → PE E
  | .l (.bor (.tmp u) j hv cv k) t xs => match cfg.keep u with
    | true => .ret (.l (.bor (.tmp u) j hv cv k) t xs)
    | false => toDE (.l (.bor (.tmp u) j hv cv k) t xs)
  | .n (.bor (.tmp u) j hv cv k) t o => match cfg.keep u with
    | true => .ret (.n (.bor (.tmp u) j hv cv k) t o)
    | false => toDE (.n (.bor (.tmp u) j hv cv k) t o)
  | c => .ret c
def prepE (cfg : Cfg) (c : E) : PE E := prep1E cfg c
def prepCsE (cfg : Cfg) : List E → PE (List E)
  | [] => .ret []
  | c :: cs => do let c' ← prepE cfg c; let r ← prepCsE cfg cs; .ret (c' :: r)
def prepSVE (cfg : Cfg) : SVE → PE SVE
  | .one c => do .ret (.one (← prepE cfg c))
  | .agg cs => do .ret (.agg (← prepCsE cfg cs))
  | _ => .fail
def prepSVsE (cfg : Cfg) : List SVE → PE (List SVE)
  | [] => .ret []
  | v :: vs => do let v' ← prepSVE cfg v; let r ← prepSVsE cfg vs; .ret (v' :: r)
def canonE (ks : List Key) : E → PE E
  | .l (.bor r j hv cv _) t xs => .get r fun x => do
    sure (x.hv == hv && x.cv == cv)
    match x.at j with
    | .l .own _ _ => do
      sure (ks.all fun k => !reqb r (.box k))
      .ret (.l .own t xs)
    | .n .own _ o => .call [] o fun _ => do
      sure (ks.all fun k => !reqb r (.box k))
      .ret (.l .own t xs)
    | .l .data _ _ => .ret (.l .data t xs)
    | .n .data _ o => .call [] o fun _ => .ret (.l .data t xs)
    | _ => .fail
  | .n (.bor r j hv cv _) t o => .get r fun x => do
    sure (x.hv == hv && x.cv == cv)
    match x.at j with
    | .n .own _ _ => do
      aliveNE j x o.isSome
      sure (ks.all fun k => !reqb r (.box k))
      .ret (.n .own t o)
    | .n .data _ _ => do
      aliveNE j x o.isSome
      .ret (.n .data t o)
    | _ => .fail
  | .ptr k off => .ret (.ptr (.inb (idx k ks)) off)
  | .clo f caps => .ret (.clo f (caps.map fun p => (.inb (idx p.1 ks), p.2)))
  | c => match isData c with
    | true => .ret c
    | false => .fail
def canonsE (ks : List Key) : List E → PE (List E)
  | [] => .ret []
  | c :: cs => do let c' ← canonE ks c; let r ← canonsE ks cs; .ret (c' :: r)
def canonSVE (ks : List Key) : SVE → PE SVE
  | .one c => do .ret (.one (← canonE ks c))
  | .agg cs => do .ret (.agg (← canonsE ks cs))
  | _ => .fail
def canonSVsE (ks : List Key) : List SVE → PE (List SVE)
  | [] => .ret []
  | v :: vs => do let v' ← canonSVE ks v; let r ← canonSVsE ks vs; .ret (v' :: r)
def plainE : E → Bool
  | .i _ _ | .b _ | .tt | .ff | .s _ | .l .data _ _ | .n .data _ _ | .l .own _ _ | .n .own _ _ | .nil | .nul _ => true
  | _ => false
/-- a pointer in a box that is handed to a call: to a box that is handed too -/
def tokE (ks : List Key) : E → Bool
  | .ptr k _ => ks.any (keqb k)
  | c => plainE c
def tcE (ks : List Key) : E → E
  | .ptr k off => .ptr (.inb (idx k ks)) off
  | c => c
def plainO : Option E → Bool
  | some c => plainE c
  | none => true
def getBoxesE (kk : List Key) : List Key → PE (List (List E))
  | [] => .ret []
  | k :: ks => .get (.box k) fun x => match x.v with
    | .agg cs => do sure (cs.all (tokE kk)); let r ← getBoxesE kk ks; .ret (cs.map (tcE kk) :: r)
    | _ => .fail
def boxKeysE : List Key → PE (List Key)
  | [] => .ret []
  | k :: ks => .get (.box k) fun x => match x.v with
    | .agg cs => do let r ← boxKeysE ks; .ret (keysOfE cs ++ r)
    | _ => .fail
def keepPtr : List E → List (Option E) → Bool
  | [.ptr _ _], [] => true
  | [.ptr _ _], none :: _ => true
  | _, _ => false
def putBoxesE (kk : List Key) : List Key → List (List (Option E)) → PE Unit
  | [], _ => .ret ()
  | k :: ks, o :: os => .get (.box k) fun x => match x.v with
    | .agg cs => do
      sure (cs.all (tokE kk) && o.all plainO)
      match keepPtr cs o with
      | true => putBoxesE kk ks os
      | false => .wr k o (putBoxesE kk ks os)
    | _ => .fail
  | _, _ => .fail
def escapeE (t : Nat) : Nat → List (List E) → PE Unit
  | _, [] => .ret ()
  | i, b :: bs => .get (.box (.esc t i)) fun x => match x.v with
    | .undef => do sure (b.all plainE); putE (.box (.esc t i)) { hv := x.hv + 1, cv := x.cv, v := .agg b }; escapeE t (i + 1) bs
    | _ => .fail
def frzOkE (args : List SVE) (l : List (Nat × Nat)) : Bool :=
  l.all fun p => isData ((args.getD p.1 .undef).cells.getD p.2 .dead)
def backE (ks : List Key) (t : Nat) : E → PE E
  | .ptr (.inb i) off => .ret (.ptr (backKey ks t (.inb i)) off)
  | .clo f caps => do sure caps.isEmpty; .ret (.clo f [])
  | c => match plainE c with
    | true => .ret c
    | false => .fail
def backsE (ks : List Key) (t : Nat) : List E → PE (List E)
  | [] => .ret []
  | c :: cs => do let c' ← backE ks t c; let r ← backsE ks t cs; .ret (c' :: r)
def backTupE (ks : List Key) (t : Nat) : List (Bool × List E) → PE (List (Bool × List E))
  | [] => .ret []
  | (b, cs) :: vs => do let cs' ← backsE ks t cs; let r ← backTupE ks t vs; .ret ((b, cs') :: r)
def backSVE (ks : List Key) (t : Nat) : SVE → PE SVE
  | .one c => do .ret (.one (← backE ks t c))
  | .agg cs => do .ret (.agg (← backsE ks t cs))
  | .tup vs => do .ret (.tup (← backTupE ks t vs))
  | .undef => .fail
def callE (cfg : ECfg) (f : FuncId) (args0 : List SVE) (t : Nat) : PE SVE :=
  match cfg.con t f with
  | none => .fail
  | some K => do
    let args ← prepSVsE cfg.c args0
    let more ← boxKeysE (dedup (keysOfE (args.flatMap SVE.cells)))
    let ks := dedup (keysOfE (args.flatMap SVE.cells) ++ more)
    let cargs ← canonSVsE ks args
    let bs ← getBoxesE ks ks
    match K.mat cargs bs with
    | none => .fail
    | some x => .call K.d (K.sh x) fun y => do
      sure (Nat.ble ks.length (K.out x y).2.length && frzOkE cargs K.frz)
      putBoxesE ks ks ((K.out x y).2.take ks.length)
      escapeE t 0 (((K.out x y).2.drop ks.length).map unS)
      backSVE ks t (K.out x y).1
def calleeE (o : Operand) : PE (FuncId × List SVE) :=
  match o with
  | .func f => .ret (f, [])
  | o => do
    match ← ev1E o with
    | .clo f caps => .ret (f, caps.map fun p => .one (.ptr p.1 p.2))
    | _ => .fail
/-! ## A region's operations -/
def takeStoreE (cfg : Cfg) (c : E) (r : Res) : Bool :=
  match r with
  | .tmp u => !cfg.var.contains u || (match c with | .ptr (.loc t) _ => cfg.res.contains t | _ => false)
  | .box (.loc _) => (match c with | .ptr (.loc t) _ => cfg.res.contains t | _ => false)
  | _ => false
def move1E (self : Res × Nat) (u : Operand) : E → PE E
  | .l (.bor r j hv cv k) t xs => match takeMove u r with
    | true => stashE (some self) (takeMove u) (.l (.bor r j hv cv k) t xs)
    | false => .ret (.l (.bor r j hv cv k) t xs)
  | .n (.bor r j hv cv k) t o => match takeMove u r with
    | true => stashE (some self) (takeMove u) (.n (.bor r j hv cv k) t o)
    | false => .ret (.n (.bor r j hv cv k) t o)
  | c => .ret c
def moveCellsE (r : Res) (u : Operand) : Nat → List E → PE (List E)
  | _, [] => .ret []
  | i, c :: cs => do let c' ← move1E (r, i) u c; let cs' ← moveCellsE r u (i + 1) cs; .ret (c' :: cs')
def moveTupE (r : Res) (u : Operand) : Nat → List (Bool × List E) → PE (List (Bool × List E))
  | _, [] => .ret []
  | i, (b, cs) :: vs => do let cs' ← moveCellsE r u i cs; let vs' ← moveTupE r u (i + cs.length) vs; .ret ((b, cs') :: vs')
def moveSVE (r : Res) (u : Operand) : SVE → PE SVE
  | .one c => do .ret (.one (← move1E (r, 0) u c))
  | .agg cs => do .ret (.agg (← moveCellsE r u 0 cs))
  | .tup vs => do .ret (.tup (← moveTupE r u 0 vs))
  | .undef => .fail
def evOptE : Option Operand → PE (Option Int)
  | none => .ret none
  | some o => do .ret (some (← cIntE (← ev1E o)))
def minI (a b : Int) : Int := if b < a then b else a
def maxI (a b : Int) : Int := if b > a then b else a
def minmaxE (isMin : Bool) : List SVE → PE SVE
  | [.one (.i k a), .one (.i _ b)] => .ret (dintE k (match isMin with | true => minI a b | false => maxI a b))
  | _ => .fail
def isPtr : SVE → Option (Key × Nat)
  | .one (.ptr k o) => some (k, o)
  | _ => none
def isPtrs : List SVE → Option (List (Key × Nat))
  | [] => some []
  | v :: r => match isPtr v, isPtrs r with
    | some p, some l => some (p :: l)
    | _, _ => none
def know (o : Operand) (b : Bool) : PE Unit :=
  match o with
  | .tmp t => .know (.tmp t) b (.ret ())
  | _ => .ret ()
def avalE (cfg : ECfg) (op : Op) (dst : Nat) : PE SVE :=
  match op with
  | .move x => do
    let v ← evE x
    match Vs.isVar cfg.c x with
    | true => .ret v
    | false => moveSVE (.tmp dst) x v
  | .assign x => do
    let v ← evE x
    stashSVE (.tmp dst) (takeAssign cfg.c dst) v
  | .pick c a b => do
    match ← ev1E c with
    | .tt => evE a
    | .ff => evE b
    | .b x => .br x (do know c true; evE a) (do know c false; evE b)
    | _ => .fail
  | .alloc t => match cfg.c.ti t with
    | some { size, zero := some z, .. } => do
      sure (z.length == size)
      .get (.box (.loc dst)) fun x => match x.v with
        | .undef => match ofDs z with
          | some cs => do putE (.box (.loc dst)) { hv := x.hv + 1, cv := x.cv, v := .agg cs }; .ret (.one (.ptr (.loc dst) 0))
          | none => .fail
        | _ => .fail
    | _ => .fail
  | .box _ x => do
    let v ← evE x
    match v.asCells with
    | some cs => do
      let cs' ← stashesE (fun n => (.box (.loc dst), n)) (takeStoreE cfg.c (.ptr (.loc dst) 0)) 0 cs
      .get (.box (.loc dst)) fun x => match x.v with
        | .undef => do putE (.box (.loc dst)) { hv := x.hv + 1, cv := x.cv, v := .agg cs' }; .ret (.one (.ptr (.loc dst) 0))
        | _ => .fail
    | none => .fail
  | .build t ps => buildE cfg.c t ps.toList
  | .buildSlice t len ps => buildSliceE cfg t len ps.toList
  | .load t a => match cfg.c.ti t with
    | some i => do loadE i (← ev1E a)
    | none => .fail
  | .nilCheck x => do
    match ← ev1E x with
    | .ptr k o => .ret (.one (.ptr k o))
    | .ea r j hv e i o => .ret (.one (.ea r j hv e i o))
    | .da t x o => .ret (.one (.da t x o))
    | _ => .fail
  | .binOp op t x y _ => do
    match ← evE x, ← evE y with
    | .one a, .one b => binE cfg.c t op a b
    | .agg xs, .agg ys => eqAggE cfg.c t op xs ys
    | _, _ => .fail
  | .unOp op _ x => do
    match op, ← ev1E x with
    | .neg, .i k n => .ret (dintE k (k.wrap (0 - n)))
    | .xor, .i k n => binIntE .xor k (if k.signed then -1 else k.max) n
    | .not, .b b => .ret (dboolE (!b))
    | .not, .tt => .ret (.one .ff)
    | .not, .ff => .ret (.one .tt)
    | _, _ => .fail
  | .convert s t x => do convertE cfg.c s t (← evE x)
  | .makeFunc (.func f) first captured => do
    sure (first.toList.isEmpty)
    let vs ← evsE captured.toList
    match isPtrs vs with
    | some l => .ret (.one (.clo f l))
    | none => .fail
  | .makeSlice t l c => do
    let n ← cIntE (← ev1E l)
    let m ← cIntE (← ev1E c)
    makeSliceE cfg t n m
  | .slice t x lo hi none => match cfg.c.ti t with
    | some { kind := .str, .. } => do
      let v ← evE x
      let l ← evOptE lo
      let h ← evOptE hi
      subStrE v l h
    | some { kind := .slice et, .. } => match cfg.c.ti et with
      | some i => do
        let v ← evE x
        let l ← evOptE lo
        let h ← evOptE hi
        subSlE i.size v l h
      | none => .fail
    | _ => .fail
  | .fieldAddr t x f => do .ret (.one (← fieldE cfg.c t (← ev1E x) f))
  | .field t x f => do
    match cfg.c.ti t, ← evE x with
    | some { kind := .struct fs, .. }, .agg cs => match fs[f]? with
      | some (o, ft) => match cfg.c.ti ft with
        | some i => slice1E i cs o
        | none => .fail
      | none => .fail
    | _, _ => .fail
  | .indexAddr t x ix => do
    let c ← ev1E x
    let n ← cIntE (← ev1E ix)
    .ret (.one (← indexAddrE cfg.c t c n))
  | .index t x ix => do
    let v ← evE x
    let n ← cIntE (← ev1E ix)
    indexE cfg.c t v n
  | .extract x n => do
    match ← evE x with
    | .tup vs => match vs[n]? with
      | some (true, cs) => moveSVE (.tmp dst) x (.agg cs)
      | some (false, [c]) => moveSVE (.tmp dst) x (.one c)
      | _ => .fail
    | _ => .fail
  | .call { callee := .builtin .len, args, argTypes } => match args.toList, argTypes.toList with
    | [x], [t] => match cfg.c.ti t with
      | some { kind := .str, .. } => do lenE true (← evE x)
      | some { kind := .slice _, .. } => do lenE false (← evE x)
      | _ => .fail
    | _, _ => .fail
  | .call { callee := .builtin .append, args, argTypes } => match args.toList, argTypes.toList with
    | [x, y], [t, t2] => match cfg.c.ti t with
      | some { kind := .slice et, .. } => match cfg.c.ti et, lk et cfg.R with
        | some i, some ty => match cfg.c.ti t2 with
          | some { kind := .int .i64, .. } => do
            let c ← ev1E x
            let n ← cIntE (← ev1E y)
            appendMakeE i ty c n
          | _ => do
            let c ← ev1E x
            let c2 ← ev1E y
            let ys ← addedE cfg.c i ty t2 c2
            appendE i ty c ys (isLit cfg.c.var c2)
        | _, _ => .fail
      | _ => .fail
    | _, _ => .fail
  | .call { callee := .builtin .cap, args, argTypes } => match args.toList, argTypes.toList with
    | [x], [t] => match cfg.c.ti t with
      | some { kind := .slice _, .. } => do capE (← ev1E x)
      | _ => .fail
    | _, _ => .fail
  | .call { callee := .builtin .min, args, .. } => do minmaxE true (← evsE args.toList)
  | .call { callee := .builtin .max, args, .. } => do minmaxE false (← evsE args.toList)
  | .call { callee := .value o, args, .. } => do
    let (f, caps) ← calleeE o
    let vs ← evsE args.toList
    callE cfg f (vs ++ caps) dst
  | _ => .fail
def putTmpE (cfg : ECfg) (t : Nat) (v : SVE) : PE Unit :=
  .get (.tmp t) fun x => do
    sure (nlt t cfg.N)
    putE (.tmp t) { hv := x.hv + 1, cv := x.cv, v }
def step0E (cfg : ECfg) (o : Oper) : PE Unit :=
  match o.op, o.dst with
  | .store t a x, none => match cfg.c.ti t with
    | some i => do
      let c ← ev1E a
      let v ← evE x
      storeE (takeStoreE cfg.c c) i c v
    | none => .fail
  | op, some d => do putTmpE cfg d (← avalE cfg op d)
  | _, none => .fail
def stepE (cfg : ECfg) (ops : Array Oper) (o : Oper) : PE Unit :=
  match o.guard with
  | none => step0E cfg o
  | some (j, want) => do
    let undo : PE Unit := match o.dst with
      | some d => putTmpE cfg d (.tup [])
      | none => .ret ()
    match (ops[j]?).bind (·.dst) with
    | some t => .get (.tmp t) fun x => match x.v with
      | .one .tt => match want with
        | true => step0E cfg o
        | false => undo
      | .one .ff => match want with
        | true => undo
        | false => step0E cfg o
      | .one (.b b) => match want with
        | true => .br b (.know (.tmp t) true (step0E cfg o)) (.know (.tmp t) false undo)
        | false => .br b (.know (.tmp t) true undo) (.know (.tmp t) false (step0E cfg o))
      | .tup [] => undo
      | _ => .fail
    | none => .fail
def runE (cfg : ECfg) (ops : Array Oper) : List Oper → ESt → Tr (ESt × List (List Res × List Res))
  | [], s => .leaf (s, [])
  | o :: r, s => ((stepE cfg ops o).both s).bind fun x => (runE cfg ops r x.2.1).bind fun y => .leaf (y.1, (x.2.2.1, x.2.2.2) :: y.2)
end Go.Ve
/- The typed evaluator keeps step with the other one: values, states, reading. -/
namespace Go.Ve
open Go.Vs
/-! ## Trees -/
namespace Tr
theorem box_bind {α β : Type} (t : Tr α) (f : α → Tr β) (Q : β → Prop) : (t.bind f).box Q ↔ t.box fun a => (f a).box Q := by
  induction t with
  | leaf a => rfl
  | fail => exact Iff.rfl
  | br c t e iht ihe => simp only [bind, box, iht, ihe]
  | call d o k ih => simp only [bind, box, ih]
  | sum o k k' ih ih' => simp only [bind, box, ih, ih']
theorem box_map {α β : Type} (t : Tr α) (f : α → β) (Q : β → Prop) : (t.map f).box Q ↔ t.box fun a => Q (f a) := by
  induction t with
  | leaf a => rfl
  | fail => exact Iff.rfl
  | br c t e iht ihe => simp only [map, box, iht, ihe]
  | call d o k ih => simp only [map, box, ih]
  | sum o k k' ih ih' => simp only [map, box, ih, ih']
theorem box_mono {α : Type} {t : Tr α} {Q Q' : α → Prop} (h : ∀ a, Q a → Q' a) (ht : t.box Q) : t.box Q' := by
  induction t with
  | leaf a => exact h _ ht
  | fail => trivial
  | br c t e iht ihe => exact ⟨fun hc => iht (ht.1 hc), fun hc => ihe (ht.2 hc)⟩
  | call d o k ih => exact fun x hx => ih x (ht x hx)
  | sum o k k' ih ih' => exact ⟨fun x hx => ih x (ht.1 x hx), fun x hx => ih' x (ht.2 x hx)⟩
theorem each_bind {α β : Type} (t : Tr α) (f : α → Tr β) (Q : β → Prop) : (t.bind f).each Q ↔ t.each fun a => (f a).each Q := by
  induction t with
  | leaf a => rfl
  | fail => exact Iff.rfl
  | br c t e iht ihe => simp only [bind, each, iht, ihe]
  | call d o k ih => simp only [bind, each, ih]
  | sum o k k' ih ih' => simp only [bind, each, ih, ih']
theorem each_map {α β : Type} (t : Tr α) (f : α → β) (Q : β → Prop) : (t.map f).each Q ↔ t.each fun a => Q (f a) := by
  induction t with
  | leaf a => rfl
  | fail => exact Iff.rfl
  | br c t e iht ihe => simp only [map, each, iht, ihe]
  | call d o k ih => simp only [map, each, ih]
  | sum o k k' ih ih' => simp only [map, each, ih, ih']
theorem each_mono {α : Type} {t : Tr α} {Q Q' : α → Prop} (h : ∀ a, Q a → Q' a) (ht : t.each Q) : t.each Q' := by
  induction t with
  | leaf a => exact h _ ht
  | fail => trivial
  | br c t e iht ihe => exact ⟨iht ht.1, ihe ht.2⟩
  | call d o k ih => exact fun x => ih x (ht x)
  | sum o k k' ih ih' => exact ⟨fun x => ih x (ht.1 x), fun x => ih' x (ht.2 x)⟩
theorem each_true {α : Type} (t : Tr α) : t.each fun _ => True := by
  induction t with
  | leaf a => trivial
  | fail => trivial
  | br c t e iht ihe => exact ⟨iht, ihe⟩
  | call d o k ih => exact ih
  | sum o k k' ih ih' => exact ⟨ih, ih'⟩
theorem each_box {α : Type} {t : Tr α} {Q : α → Prop} (ht : t.each Q) : t.box Q := by
  induction t with
  | leaf a => exact ht
  | fail => trivial
  | br c t e iht ihe => exact ⟨fun _ => iht ht.1, fun _ => ihe ht.2⟩
  | call d o k ih => exact fun x _ => ih x (ht x)
  | sum o k k' ih ih' => exact ⟨fun x _ => ih x (ht.1 x), fun x _ => ih' x (ht.2 x)⟩
theorem all_and {α : Type} {t : Tr α} {Q Q' : α → Prop} (h : t.all Q) (h' : t.box Q') : t.all fun a => Q a ∧ Q' a := by
  induction t with
  | leaf a => exact ⟨h, h'⟩
  | fail => exact h
  | br c t e iht ihe => exact ⟨fun hc => iht (h.1 hc) (h'.1 hc), fun hc => ihe (h.2 hc) (h'.2 hc)⟩
  | call d o k ih => obtain ⟨x, hx, g⟩ := h; exact ⟨x, hx, ih x g (h' x hx)⟩
  | sum o k k' ih ih' => exact ⟨fun x hx => ih x (h.1 x hx) (h'.1 x hx), fun x hx => ih' x (h.2 x hx) (h'.2 x hx)⟩
theorem box_and {α : Type} {t : Tr α} {Q Q' : α → Prop} (h1 : t.box Q) (h2 : t.box Q') : t.box fun a => Q a ∧ Q' a := by
  induction t with
  | leaf a => exact ⟨h1, h2⟩
  | fail => trivial
  | br c t e iht ihe => exact ⟨fun hc => iht (h1.1 hc) (h2.1 hc), fun hc => ihe (h1.2 hc) (h2.2 hc)⟩
  | call d o k ih => exact fun x hx => ih x (h1 x hx) (h2 x hx)
  | sum o k k' ih ih' => exact ⟨fun x hx => ih x (h1.1 x hx) (h2.1 x hx), fun x hx => ih' x (h1.2 x hx) (h2.2 x hx)⟩
theorem all_iff {α : Type} (t : Tr α) (Q : α → Prop) : t.all Q ↔ ∃ a, t.run = some a ∧ Q a := by
  induction t with
  | leaf a => simp [all, run]
  | fail => simp [all, run]
  | br c t e iht ihe => cases c <;> simp [all, run, iht, ihe]
  | call d o k ih => cases o <;> simp [all, run, callO, ih]
  | sum o k k' ih ih' => cases o <;> simp [all, run, sumO, ih, ih']
theorem run_box {α : Type} {t : Tr α} {Q : α → Prop} {a : α} (h : t.run = some a) (h' : t.box Q) : Q a := by
  have := all_and ((all_iff t fun b => b = a).2 ⟨a, h, rfl⟩) h'
  obtain ⟨b, _, rfl, g⟩ := (all_iff t _).1 this
  exact g
theorem run_bind {α β : Type} (t : Tr α) (f : α → Tr β) : (t.bind f).run = t.run.bind fun a => (f a).run := by
  induction t with
  | leaf a => rfl
  | fail => rfl
  | br c t e iht ihe => cases c <;> simp [bind, run, iht, ihe]
  | call d o k ih => cases o <;> simp [bind, run, callO, ih]
  | sum o k k' ih ih' => cases o <;> simp [bind, run, sumO, ih, ih']
theorem run_map {α β : Type} (t : Tr α) (f : α → β) : (t.map f).run = t.run.map f := by
  induction t with
  | leaf a => rfl
  | fail => rfl
  | br c t e iht ihe => cases c <;> simp [map, run, iht, ihe]
  | call d o k ih => cases o <;> simp [map, run, callO, ih]
  | sum o k k' ih ih' => cases o <;> simp [map, run, sumO, ih, ih']
end Tr
/-! ## Values -/
theorem lset_eq {α : Type} : ∀ (l : List α) (j : Nat) (c : α), lset l j c = l.set j c
  | [], j, c => by simp [lset]
  | x :: r, 0, c => rfl
  | x :: r, j + 1, c => by simp [lset, lset_eq r j c]
theorem cEs_set (cs : List E) (j : Nat) (c : E) : cEs (lset cs j c) = (cEs cs).set j (cE c) := by
  rw [lset_eq]; simp [cEs, List.map_set]
@[simp] theorem cEs_length (cs : List E) : (cEs cs).length = cs.length := by simp [cEs]
@[simp] theorem cEs_append (l m : List E) : cEs (l ++ m) = cEs l ++ cEs m := by simp [cEs]
theorem cTup_cells : ∀ (vs : List (Bool × List E)), (cTup vs).flatMap (·.2) = cEs (vs.flatMap (·.2))
  | [] => rfl
  | (b, cs) :: r => by
    have := cTup_cells r
    simp only [cTup, List.map_cons, List.flatMap_cons, cEs_append] at this ⊢
    rw [this]
theorem cells_eq (v : SVE) : (cSV v).cells = cEs v.cells := by
  cases v with
  | tup vs => exact cTup_cells vs
  | _ => rfl
theorem getD_map {α β : Type} (f : α → β) (l : List α) (j : Nat) (d : α) : (l.map f).getD j (f d) = f (l.getD j d) := by
  simp only [List.getD_eq_getElem?_getD, List.getElem?_map]
  cases l[j]? <;> rfl
theorem at_eq (x : RVE) (j : Nat) : (cRV x).at j = cE (x.at j) := by
  show (cSV x.v).cells.getD j .dead = _
  rw [cells_eq]
  exact getD_map cE _ j .dead
theorem setTupE_eq : ∀ (vs : List (Bool × List E)) (j : Nat) (c : E), cTup (setTupE vs j c) = setTup (cTup vs) j (cE c)
  | [], j, c => rfl
  | (b, cs) :: r, j, c => by
    have ih := setTupE_eq r (j - cs.length) c
    simp only [setTupE, cTup, List.map_cons, setTup, cEs_length] at ih ⊢
    split <;> simp [cEs_set, ih]
theorem setCell_eq (v : SVE) (j : Nat) (c : E) : cSV (v.setCell j c) = (cSV v).setCell j (cE c) := by
  cases v with
  | one x =>
    show cSV (if j = 0 then .one c else .one x) = if j = 0 then .one (cE c) else .one (cE x)
    split <;> rfl
  | agg cs => simp only [SVE.setCell, cSV, SV.setCell, cEs_set]
  | tup vs => simp only [SVE.setCell, cSV, SV.setCell, setTupE_eq]
  | undef => rfl
theorem setCell_same (v : SV) (j : Nat) (h : j < v.cells.length) : v.setCell j (v.cells.getD j .dead) = v := by
  cases v with
  | one x =>
    simp only [SV.cells, List.length_singleton] at h
    have : j = 0 := by omega
    subst this; rfl
  | agg cs =>
    simp only [SV.cells] at h ⊢
    simp only [SV.setCell, SV.agg.injEq]
    rw [List.getD_eq_getElem?_getD, List.getElem?_eq_getElem h]; simp
  | tup vs =>
    simp only [SV.cells] at h ⊢
    simp only [SV.setCell, SV.tup.injEq]
    induction vs generalizing j with
    | nil => rfl
    | cons p r ih =>
      obtain ⟨b, cs⟩ := p
      simp only [List.flatMap_cons, List.length_append] at h
      simp only [setTup, List.flatMap_cons]
      split
      · rename_i hj
        rw [List.getD_eq_getElem?_getD, List.getElem?_append_left hj, List.getElem?_eq_getElem hj]
        simp
      · rename_i hj
        have := ih (j - cs.length) (by omega)
        rw [List.getD_eq_getElem?_getD, List.getElem?_append_right (by omega), ← List.getD_eq_getElem?_getD, this]
  | undef => simp [SV.cells] at h
theorem cE_n_none (m : Md) (t : Ty) : cE (.n m t none) = .d .nil := rfl
theorem cE_n_some (m : Md) (t : Ty) (xs : List t.T) : cE (.n m t (some xs)) = cE (.l m t xs) := rfl
theorem cE_n (m : Md) (t : Ty) (o : Option (List t.T)) (h : o.isSome = true) : cE (.n m t o) = cE (.l m t (o.getD [])) := by
  cases o with
  | none => cases h
  | some xs => rfl
theorem bcell_eq (r : Res) (x : RVE) (j : Nat) (c : E) : cE (bcellE r x j c) = bcell r (cRV x) j (cE c) := by
  cases c with
  | l m t xs => cases m <;> rfl
  | n m t o => cases m <;> cases o <;> rfl
  | gone b => cases b <;> rfl
  | _ => rfl
theorem bcells_eq (r : Res) (x : RVE) : ∀ (j : Nat) (cs : List E), cEs (bcellsE r x j cs) = bcells r (cRV x) j (cEs cs)
  | j, [] => rfl
  | j, c :: cs => by
    have := bcells_eq r x (j + 1) cs
    simp only [cEs, List.map_cons] at this ⊢
    simp only [bcellsE, List.map_cons, bcells, bcell_eq, this]
theorem btup_eq (r : Res) (x : RVE) : ∀ (j : Nat) (vs : List (Bool × List E)), cTup (btupE r x j vs) = btup r (cRV x) j (cTup vs)
  | j, [] => rfl
  | j, (b, cs) :: vs => by
    have := btup_eq r x (j + cs.length) vs
    simp only [cTup, List.map_cons] at this ⊢
    simp only [btupE, List.map_cons, btup, bcells_eq, this, cEs_length]
theorem copy_eq (x : RVE) (r : Res) : cSV (x.copy r) = (cRV x).copy r := by
  obtain ⟨hv, cv, v⟩ := x
  cases v with
  | one c => exact congrArg SV.one (bcell_eq r _ 0 c)
  | agg cs => exact congrArg SV.agg (bcells_eq r _ 0 cs)
  | tup vs => exact congrArg SV.tup (btup_eq r _ 0 vs)
  | undef => rfl
theorem reflect_eq {v : Value} {e : E} (h : reflectE v = some e) : ∃ d, reflect v = some d ∧ cE e = .d d := by
  unfold reflectE at h
  split at h <;> first | (cases h; exact ⟨_, rfl, rfl⟩) | (rename_i b; cases h; cases b <;> exact ⟨_, rfl, rfl⟩) | (cases h; done)
theorem reflectAll_eq : ∀ {vs : List Value} {es : List E}, reflectAllE vs = some es → ∃ ds, reflectAll vs = some ds ∧ cEs es = ds.map .d
  | [], es, h => by cases h; exact ⟨[], rfl, rfl⟩
  | v :: r, es, h => by
    unfold reflectAllE at h
    split at h
    · rename_i d ds h1 h2
      cases h
      obtain ⟨x, e1, e2⟩ := reflect_eq h1
      obtain ⟨xs, e3, e4⟩ := reflectAll_eq h2
      exact ⟨x :: xs, by simp [reflectAll, e1, e3], by simp only [cEs, List.map_cons] at e4 ⊢; rw [e2, e4]⟩
    · cases h
theorem cells_enc : ∀ (t : Ty) (x : t.T), cEs (cellsT t x) = (encR t x).map .d
  | .int k, n => rfl
  | .bool, b => rfl
  | .str, s => rfl
  | .sl t, o => by cases o <;> rfl
  | .pair h t, x => by
    have h1 := cells_enc h x.1
    have h2 := cells_enc t x.2
    simp only [cellsT, cEs_append, h1, h2, encR, List.map_append]
theorem encR_length : ∀ (t : Ty) (x : t.T), (encR t x).length = t.w
  | .int k, n => rfl
  | .bool, b => rfl
  | .str, s => rfl
  | .sl t, o => by cases o <;> rfl
  | .pair h t, x => by simp [encR, Ty.w, encR_length h x.1, encR_length t x.2]
theorem cellsT_length (t : Ty) (x : t.T) : (cellsT t x).length = t.w := by
  have := congrArg List.length (cells_enc t x)
  simpa [encR_length] using this
theorem w_pos : ∀ (t : Ty), 0 < t.w
  | .int _ => Nat.one_pos
  | .bool => Nat.one_pos
  | .str => Nat.one_pos
  | .sl _ => Nat.one_pos
  | .pair h t => by have := w_pos h; simp only [Ty.w]; omega
theorem takeT_eq : ∀ (t : Ty) (cs r : List E) (x : t.T), takeT t cs = some (x, r) → ∃ a, cs = a ++ r ∧ cEs a = (encR t x).map .d
  | .int k, cs, r, x, h => by
    unfold takeT at h
    split at h
    · split at h
      · rename_i hk; cases h; subst hk; exact ⟨[.i _ _], rfl, rfl⟩
      · cases h
    · cases h
  | .bool, cs, r, x, h => by
    unfold takeT at h
    split at h <;> cases h
    · exact ⟨[.b _], rfl, rfl⟩
    · exact ⟨[.tt], rfl, rfl⟩
    · exact ⟨[.ff], rfl, rfl⟩
  | .str, cs, r, x, h => by
    unfold takeT at h
    split at h <;> cases h
    exact ⟨[.s _], rfl, rfl⟩
  | .sl t, cs, r, x, h => by
    unfold takeT at h
    split at h
    · split at h
      · rename_i o _ ht; subst ht; cases h; exact ⟨[.n .data _ o], rfl, by cases o <;> rfl⟩
      · cases h
    · split at h
      · rename_i ht; subst ht; cases h; exact ⟨[.l .data _ _], rfl, rfl⟩
      · cases h
    · cases h; exact ⟨[.nil], rfl, rfl⟩
    · cases h
  | .pair h t, cs, r, x, hh => by
    unfold takeT at hh
    split at hh
    · rename_i y r1 h1
      split at hh
      · rename_i z r2 h2
        cases hh
        obtain ⟨a, rfl, e2⟩ := takeT_eq h _ _ _ h1
        obtain ⟨b, rfl, f2⟩ := takeT_eq t _ _ _ h2
        exact ⟨a ++ b, by simp, by simp [e2, f2, encR]⟩
      · cases hh
    · cases hh
theorem rowT_eq {t : Ty} {cs : List E} {x : t.T} (h : rowT t cs = some x) : cEs cs = (encR t x).map .d := by
  unfold rowT at h
  split at h
  · rename_i y hy
    cases h
    obtain ⟨a, rfl, e⟩ := takeT_eq t _ _ _ hy
    simpa using e
  · cases h
/-! ## States -/
theorem keqb_iff (a b : Key) : keqb a b = true ↔ a = b := by
  cases a <;> cases b <;> simp [keqb]
theorem reqb_iff (a b : Res) : reqb a b = true ↔ a = b := by
  cases a <;> cases b <;> simp [reqb, keqb_iff]
theorem lkR_updR (r : Res) (x : RVE) (q : Res) : ∀ (l : List (Res × RVE)), lkR q (updR r x l) = if q = r then x else lkR q l
  | [] => by
    simp only [updR, lkR]
    by_cases h : q = r
    · rw [(reqb_iff q r).2 h, if_pos h]
    · rw [if_neg h]
      cases hb : reqb q r with
      | true => exact absurd ((reqb_iff q r).1 hb) h
      | false => rfl
  | (p, y) :: l => by
    have ih := lkR_updR r x q l
    simp only [updR]
    cases hrp : reqb r p with
    | true =>
      have := (reqb_iff r p).1 hrp
      subst this
      simp only [lkR]
      by_cases h : q = r
      · rw [(reqb_iff q r).2 h, if_pos h]
      · rw [if_neg h]
        cases hb : reqb q r with
        | true => exact absurd ((reqb_iff q r).1 hb) h
        | false => rfl
    | false =>
      simp only [lkR]
      rw [ih]
      cases hqp : reqb q p with
      | true =>
        have := (reqb_iff q p).1 hqp
        subst this
        have hne : q ≠ r := by rintro rfl; rw [(reqb_iff q q).2 rfl] at hrp; cases hrp
        simp [hne]
      | false => rfl
theorem get_put (s : ESt) {r : Res} (x : RVE) (hr : r.isArg = false) (q : Res) : (s.put r x).get q = if q = r then x else s.get q := by
  cases q with
  | arg i =>
    have : Res.arg i ≠ r := by rintro rfl; cases hr
    rw [if_neg this]; rfl
  | tmp t => exact lkR_updR r x _ s.m
  | box k => exact lkR_updR r x _ s.m
theorem cSt_put (s : ESt) {r : Res} (x : RVE) (hr : r.isArg = false) : cSt (s.put r x) = (cSt s).set r (cRV x) := by
  funext q
  simp only [cSt, get_put s x hr q, St.set]
  split <;> rfl
theorem cSt_know (s : ESt) {t : Nat} {c b : Bool} (h : (s.get (.tmp t)).v = .one (.b c)) (hc : c = b) : cSt (s.know (.tmp t) b) = cSt s := by
  funext q
  have hg : (s.know (.tmp t) b).get q = if q = .tmp t then { (s.get (.tmp t)) with v := .one (kb b) } else s.get q := by
    cases q with
    | arg i => rw [if_neg (by simp)]; rfl
    | tmp u => exact lkR_updR (.tmp t) _ (.tmp u) s.m
    | box k => exact lkR_updR (.tmp t) _ (.box k) s.m
  simp only [cSt, hg]
  split
  · rename_i hq
    subst hq hc
    have : s.get (.tmp t) = { (s.get (.tmp t)) with v := .one (.b c) } := by rw [← h]
    rw [this]
    cases c <;> rfl
  · rfl
theorem get_wr (s : ESt) (k : Key) (os : List (Option E)) (q : Res) {cs : List E} (h : (s.get (.box k)).v = .agg cs) : (s.wr k os).get q = if q = .box k then { hv := (s.get (.box k)).hv + 1, cv := (s.get (.box k)).cv, v := .agg (overE cs os) } else s.get q := by
  have h' : (lkR (.box k) s.m).v = .agg cs := h
  cases q with
  | arg i => rw [if_neg (by simp)]; rfl
  | tmp u => 
    have := lkR_updR (.box k) { hv := (lkR (.box k) s.m).hv + 1, cv := (lkR (.box k) s.m).cv, v := match (lkR (.box k) s.m).v with | .agg cs => .agg (overE cs os) | v => v } (.tmp u) s.m
    rw [if_neg (by simp)] at this ⊢
    exact this
  | box u =>
    show lkR (.box u) (updR (.box k) { hv := (lkR (.box k) s.m).hv + 1, cv := (lkR (.box k) s.m).cv, v := match (lkR (.box k) s.m).v with | .agg cs => .agg (overE cs os) | v => v } s.m) = _
    rw [lkR_updR]
    split
    · rw [h']; rfl
    · rfl
theorem cSt_wr (s : ESt) (k : Key) (os : List (Option E)) {cs : List E} (h : (s.get (.box k)).v = .agg cs) : cSt (s.wr k os) = (cSt s).set (.box k) { hv := (s.get (.box k)).hv + 1, cv := (s.get (.box k)).cv, v := .agg (cEs (overE cs os)) } := by
  funext q
  simp only [cSt, get_wr s k os q h, St.set]
  split <;> rfl
theorem overE_splice : ∀ (old : List E) (off : Nat) (cs : List E), off + cs.length ≤ old.length → overE old (List.replicate off none ++ cs.map some) = splice old off cs
  | old, 0, cs, h => by
    have : ∀ (old cs : List E), cs.length ≤ old.length → overE old (cs.map some) = cs ++ old.drop cs.length := by
      intro old cs
      induction cs generalizing old with
      | nil => intro _; cases old <;> simp [overE]
      | cons c cs ih =>
        intro h
        cases old with
        | nil => simp at h
        | cons o old => simp only [List.map_cons, overE, List.cons_append, List.length_cons, List.drop_succ_cons, ih old (by simpa using h)]
    simpa [splice] using this old cs (by simpa using h)
  | [], off + 1, cs, h => by simp at h
  | o :: old, off + 1, cs, h => by
    have ih := overE_splice old off cs (by simp only [List.length_cons] at h; omega)
    simp only [List.replicate_succ, List.cons_append, overE, ih]
    simp only [splice, List.take_succ_cons, List.cons_append]
    rw [show off + 1 + cs.length = (off + cs.length) + 1 by omega, List.drop_succ_cons]
/-! ## Keeping step -/
def Sim {α β : Type} (s : ESt) (p : PE α) (f : α → β) (q : Prog β) : Prop :=
  (p.both s).box fun x => ∃ fr fw, q.both (cSt s) = some (f x.1, cSt x.2.1, fr, fw) ∧ (∀ r ∈ fr, r ∈ x.2.2.1) ∧ ∀ r ∈ fw, r ∈ x.2.2.2
theorem bothE_bind {α β : Type} (p : PE α) (k : α → PE β) : ∀ s, (p.bind k).both s = (p.both s).bind fun x => ((k x.1).both x.2.1).map fun y => (y.1, y.2.1, x.2.2.1 ++ y.2.2.1, x.2.2.2 ++ y.2.2.2) := by
  have hmap : ∀ {γ δ ε : Type} (t : Tr γ) (f : γ → δ) (g : δ → Tr ε), (t.map f).bind g = t.bind fun a => g (f a) := by
    intro γ δ ε t f g
    induction t with
    | leaf a => rfl
    | fail => rfl
    | br c t e iht ihe => simp only [Tr.map, Tr.bind, iht, ihe]
    | call d o k ih => simp only [Tr.map, Tr.bind, ih]
    | sum o k k' ih ih' => simp only [Tr.map, Tr.bind, ih, ih']
  have hmb : ∀ {γ δ ε : Type} (t : Tr γ) (f : γ → Tr δ) (g : δ → ε), (t.bind f).map g = t.bind fun a => (f a).map g := by
    intro γ δ ε t f g
    induction t with
    | leaf a => rfl
    | fail => rfl
    | br c t e iht ihe => simp only [Tr.map, Tr.bind, iht, ihe]
    | call d o k ih => simp only [Tr.map, Tr.bind, ih]
    | sum o k k' ih ih' => simp only [Tr.map, Tr.bind, ih, ih']
  have hmm : ∀ {γ δ ε : Type} (t : Tr γ) (f : γ → δ) (g : δ → ε), (t.map f).map g = t.map fun a => g (f a) := by
    intro γ δ ε t f g
    induction t with
    | leaf a => rfl
    | fail => rfl
    | br c t e iht ihe => simp only [Tr.map, iht, ihe]
    | call d o k ih => simp only [Tr.map, ih]
    | sum o k k' ih ih' => simp only [Tr.map, ih, ih']
  have hid : ∀ {γ : Type} (t : Tr γ), t.map (fun a => a) = t := by
    intro γ t
    induction t with
    | leaf a => rfl
    | fail => rfl
    | br c t e iht ihe => simp only [Tr.map, iht, ihe]
    | call d o k ih => simp only [Tr.map, ih]
    | sum o k k' ih ih' => simp only [Tr.map, ih, ih']
  induction p with
  | ret a => intro s; simp only [PE.bind, PE.both, Tr.bind, List.nil_append]; exact (hid _).symm
  | fail => intro s; rfl
  | br c p q ihp ihq => intro s; simp only [PE.bind, PE.both, Tr.bind, ihp, ihq]
  | call d o k ih => intro s; simp only [PE.bind, PE.both, Tr.bind, ih]
  | get r k ih => intro s; simp only [PE.bind, PE.both, ih, hmap, hmb, hmm, List.cons_append]
  | put r x k ih => intro s; simp only [PE.bind, PE.both]; cases putOk r x <;> simp only [ih, hmap, hmb, hmm, List.cons_append, Tr.bind]
  | frz i j k ih => intro s; simp only [PE.bind, PE.both, ih, hmap, hmb, hmm, List.cons_append]
  | know r b k ih => intro s; simp only [PE.bind, PE.both, ih]
  | wr q os k ih => intro s; simp only [PE.bind, PE.both, ih, hmap, hmb, hmm, List.cons_append]
theorem bothP_bind {α β : Type} (p : Prog α) (k : α → Prog β) : ∀ s, (p.bind k).both s = match p.both s with
    | some (a, s', f, g) => match (k a).both s' with
      | some (b, s'', f', g') => some (b, s'', f ++ f', g ++ g')
      | none => none
    | none => none := by
  induction p with
  | ret a => intro s; simp only [Prog.bind, Prog.both, List.nil_append]; cases (k a).both s <;> rfl
  | fail => intro s; rfl
  | get r k' ih =>
    intro s
    simp only [Prog.bind, Prog.both, ih]
    cases (k' (s r)).both s with
    | none => rfl
    | some x => simp only; cases (k x.1).both x.2.1 <;> rfl
  | put r x p ih =>
    intro s
    simp only [Prog.bind, Prog.both, ih]
    cases p.both (s.set r x) with
    | none => rfl
    | some x => simp only; cases (k x.1).both x.2.1 <;> rfl
section
variable {α β γ δ : Type} {s : ESt}
theorem Sim.ret {a : α} {f : α → β} {b : β} (h : b = f a) : Sim s (.ret a) f (.ret b) := by subst h; exact ⟨[], [], rfl, by simp, by simp⟩
theorem Sim.fail {f : α → β} {q : Prog β} : Sim s .fail f q := trivial
theorem Sim.bind2 {p : PE α} {f : α → β} {q : Prog β} {k : α → PE γ} {g : γ → δ} {k' : β → Prog δ} {R : α → ESt → Prop} (h : Sim s p f q) (hR : (p.both s).box fun x => R x.1 x.2.1) (hk : ∀ a s', R a s' → Sim s' (k a) g (k' (f a))) : Sim s (p.bind k) g (q.bind k') := by
  unfold Sim at h hk ⊢
  rw [bothE_bind, Tr.box_bind]
  refine Tr.box_mono ?_ (Tr.box_and h hR)
  rintro ⟨a, s', f1, g1⟩ ⟨⟨fr, fw, hx, i1, i2⟩, hr⟩
  rw [Tr.box_map]
  refine Tr.box_mono ?_ (hk a s' hr)
  rintro ⟨b, s'', f2, g2⟩ ⟨fr', fw', hy, i3, i4⟩
  simp only at hx hy i1 i2 i3 i4 ⊢
  refine ⟨fr ++ fr', fw ++ fw', ?_, ?_, ?_⟩
  · rw [bothP_bind, hx]
    simp only [hy]
  · intro r hr
    rcases List.mem_append.1 hr with h | h
    · exact List.mem_append_left _ (i1 r h)
    · exact List.mem_append_right _ (i3 r h)
  · intro r hr
    rcases List.mem_append.1 hr with h | h
    · exact List.mem_append_left _ (i2 r h)
    · exact List.mem_append_right _ (i4 r h)
theorem Sim.bind {p : PE α} {f : α → β} {q : Prog β} {k : α → PE γ} {g : γ → δ} {k' : β → Prog δ} (h : Sim s p f q) (hk : ∀ a s', Sim s' (k a) g (k' (f a))) : Sim s (p.bind k) g (q.bind k') :=
  Sim.bind2 (R := fun _ _ => True) h (Tr.each_box (Tr.each_true _)) fun a s' _ => hk a s'
theorem Sim.get {r : Res} {k : RVE → PE α} {f : α → β} {k' : RV → Prog β} (h : Sim s (k (s.get r)) f (k' (cRV (s.get r)))) : Sim s (.get r k) f (.get r k') := by
  unfold Sim at h ⊢
  simp only [PE.both, Tr.box_map]
  refine Tr.box_mono ?_ h
  rintro ⟨a, s', f1, g1⟩ ⟨fr, fw, hx, i1, i2⟩
  simp only at hx i1 i2 ⊢
  refine ⟨r :: fr, fw, ?_, fun q hq => ?_, i2⟩
  · simp only [Prog.both]
    show (match (k' (cRV (s.get r))).both (cSt s) with | some (a, s', f, g) => some (a, s', r :: f, g) | none => none) = _
    rw [hx]
  · rcases List.mem_cons.1 hq with h | h
    · exact h ▸ List.mem_cons_self
    · exact List.mem_cons_of_mem _ (i1 q h)
/-- looking at what the other one does not look at -/
theorem Sim.look {r : Res} {k : RVE → PE α} {f : α → β} {q : Prog β} (h : Sim s (k (s.get r)) f q) : Sim s (.get r k) f q := by
  unfold Sim at h ⊢
  simp only [PE.both, Tr.box_map]
  refine Tr.box_mono ?_ h
  rintro ⟨a, s', f1, g1⟩ ⟨fr, fw, hx, i1, i2⟩
  exact ⟨fr, fw, hx, fun q hq => List.mem_cons_of_mem _ (i1 q hq), i2⟩
theorem Sim.put {r : Res} {x : RVE} {y : RV} {p : PE α} {f : α → β} {q : Prog β} (hr : r.isArg = false) (hy : y = cRV x) (h : Sim (s.put r x) p f q) : Sim s (.put r x p) f (.put r y q) := by
  subst hy
  unfold Sim at h ⊢
  simp only [PE.both]
  cases putOk r x with
  | false => trivial
  | true =>
  simp only
  rw [Tr.box_map]
  refine Tr.box_mono ?_ h
  rintro ⟨a, s', f1, g1⟩ ⟨fr, fw, hx, i1, i2⟩
  simp only at hx i1 i2 ⊢
  refine ⟨fr, r :: fw, ?_, i1, fun q hq => ?_⟩
  · simp only [Prog.both]
    rw [← cSt_put s x hr, hx]
  · rcases List.mem_cons.1 hq with h | h
    · exact h ▸ List.mem_cons_self
    · exact List.mem_cons_of_mem _ (i2 q h)
/-- writing what was there -/
theorem Sim.putSame {r : Res} {x : RVE} {p : PE α} {f : α → β} {q : Prog β} (hr : r.isArg = false) (hx : cRV x = cRV (s.get r)) (h : Sim (s.put r x) p f q) : Sim s (.put r x p) f q := by
  have e : cSt (s.put r x) = cSt s := by
    rw [cSt_put s x hr, hx]
    funext y
    by_cases hy : y = r
    · subst hy; simp [St.set, cSt]
    · simp [St.set, hy]
  unfold Sim at h ⊢
  simp only [PE.both]
  cases putOk r x with
  | false => trivial
  | true =>
  simp only
  rw [Tr.box_map]
  refine Tr.box_mono ?_ h
  rintro ⟨a, s', f1, g1⟩ ⟨fr, fw, hx, i1, i2⟩
  rw [e] at hx
  exact ⟨fr, fw, hx, i1, fun q hq => List.mem_cons_of_mem _ (i2 q hq)⟩
theorem Sim.wr {k : Key} {os : List (Option E)} {y : RV} {p : PE α} {f : α → β} {q : Prog β} {cs : List E} (h : (s.get (.box k)).v = .agg cs) (hy : y = { hv := (s.get (.box k)).hv + 1, cv := (s.get (.box k)).cv, v := .agg (cEs (overE cs os)) }) (hp : Sim (s.wr k os) p f q) : Sim s (.wr k os p) f (.put (.box k) y q) := by
  subst hy
  unfold Sim at hp ⊢
  simp only [PE.both, Tr.box_map]
  refine Tr.box_mono ?_ hp
  rintro ⟨a, s', f1, g1⟩ ⟨fr, fw, hx, i1, i2⟩
  simp only at hx i1 i2 ⊢
  refine ⟨fr, .box k :: fw, ?_, i1, fun q hq => ?_⟩
  · simp only [Prog.both]
    rw [← cSt_wr s k os h, hx]
  · rcases List.mem_cons.1 hq with h | h
    · exact h ▸ List.mem_cons_self
    · exact List.mem_cons_of_mem _ (i2 q h)
theorem Sim.putArg {i : Nat} {x : RVE} {p : PE α} {f : α → β} {q : Prog β} : Sim s (.put (.arg i) x p) f q := trivial
theorem Sim.br {c : Bool} {p p' : PE α} {f : α → β} {q : Prog β} (h : c = true → Sim s p f q) (h' : c = false → Sim s p' f q) : Sim s (.br c p p') f q := ⟨h, h'⟩
theorem Sim.call {ρ : Type} {d : ρ} {o : Option ρ} {k : ρ → PE α} {f : α → β} {q : Prog β} (h : ∀ x, o = some x → Sim s (k x) f q) : Sim s (.call d o k) f q := h
theorem Sim.know {t : Nat} {b c : Bool} {p : PE α} {f : α → β} {q : Prog β} (h : (s.get (.tmp t)).v = .one (.b c)) (hc : c = b) (hp : Sim (s.know (.tmp t) b) p f q) : Sim s (.know (.tmp t) b p) f q := by
  unfold Sim at hp ⊢
  rw [cSt_know s h hc] at hp
  exact hp
theorem Sim.ask {c : Bool} {k : Unit → PE α} {f : α → β} {q : Prog β} (h : c = true → Sim s (k ()) f q) : Sim s ((Ve.ask c).bind k) f q := ⟨h, fun _ => trivial⟩
theorem Sim.sure {c : Bool} {k : Unit → PE α} {f : α → β} {q : Prog β} (h : c = true → Sim s (k ()) f q) : Sim s ((Ve.sure c).bind k) f q := by
  cases c with
  | true => exact h rfl
  | false => trivial
theorem Sim.comp {p : PE α} {f : α → β} {q : Prog β} {g : β → γ} (h : Sim s p f q) : Sim s p (fun a => g (f a)) (q.bind fun b => .ret (g b)) := by
  unfold Sim at h ⊢
  refine Tr.box_mono ?_ h
  rintro ⟨a, s', f1, g1⟩ ⟨fr, fw, hx, i1, i2⟩
  simp only at hx ⊢
  exact ⟨fr, fw, by rw [bothP_bind, hx]; simp [Prog.both], i1, i2⟩
theorem Sim.eqP {p : PE α} {f : α → β} {q q' : Prog β} (h : Sim s p f q') (e : q = q') : Sim s p f q := by rw [e]; exact h
theorem need_bind {α : Type} {p : Prop} [Decidable p] (h : p) (k : Unit → Prog α) : (need p).bind k = k () := by simp [need, h, Prog.bind]
theorem need_pos {p : Prop} [Decidable p] (h : p) : need p = .ret () := by simp [need, h]
end
theorem bind_eq {α β : Type} (p : Prog α) (f : α → Prog β) : (p >>= f) = p.bind f := rfl
theorem bindE_eq {α β : Type} (p : PE α) (k : α → PE β) : (p >>= k) = p.bind k := rfl
theorem retE_bind {α β : Type} (x : α) (k : α → PE β) : (PE.ret x).bind k = k x := rfl
/-! ## Reading -/
theorem evE_sim (o : Operand) (s : ESt) : Sim s (evE o) cSV (ev o) := by
  cases o with
  | tmp t =>
    simp only [evE, ev]
    refine Sim.get ?_
    have hc := copy_eq (s.get (.tmp t)) (.tmp t)
    cases hv : (s.get (.tmp t)).v with
    | undef => exact Sim.fail
    | _ => simp only [cRV, hv, cSV] at hc ⊢; exact Sim.ret hc.symm
  | const v =>
    by_cases hagg : ∃ cs, v = .agg cs
    · obtain ⟨cs, rfl⟩ := hagg
      simp only [evE, ev]
      cases hr : reflectAllE cs.toList with
      | none => exact Sim.fail
      | some es => obtain ⟨ds, h1, h2⟩ := reflectAll_eq hr; simp only [h1]; exact Sim.ret (by simp only [cSV, h2])
    · have e1 : evE (.const v) = match reflectE v with | some d => PE.ret (SVE.one d) | none => .fail := by cases v <;> first | rfl | exact absurd ⟨_, rfl⟩ hagg
      have e2 : ev (.const v) = match reflect v with | some d => Prog.ret (SV.one (.d d)) | none => .fail := by cases v <;> first | rfl | exact absurd ⟨_, rfl⟩ hagg
      rw [e1, e2]
      cases hr : reflectE v with
      | none => exact Sim.fail
      | some e => obtain ⟨d, h1, h2⟩ := reflect_eq hr; simp only [h1]; exact Sim.ret (by simp only [cSV, h2])
  | func f => exact Sim.ret rfl
  | global g => exact Sim.fail
theorem evsE_sim : ∀ (os : List Operand) (s : ESt), Sim s (evsE os) (List.map cSV) (evs os)
  | [], s => Sim.ret rfl
  | o :: os, s => by
    simp only [evsE, evs, bindE_eq, bind_eq]
    exact Sim.bind (evE_sim o s) fun v s1 => Sim.bind (evsE_sim os s1) fun vs s2 => Sim.ret rfl
theorem asOneE_sim (v : SVE) (s : ESt) : Sim s (asOneE v) cE (asOne (cSV v)) := by
  cases v <;> first | exact Sim.ret rfl | exact Sim.fail
theorem ev1E_sim (o : Operand) (s : ESt) : Sim s (ev1E o) cE (ev1 o) := by
  simp only [ev1E, ev1, bindE_eq, bind_eq]
  exact Sim.bind (evE_sim o s) fun v s1 => asOneE_sim v s1
theorem cIntE_sim (c : E) (s : ESt) : Sim s (cIntE c) (fun n => n) (cInt (cE c)) := by
  cases c <;> first | exact Sim.ret rfl | exact Sim.fail
/-! ## Keeping -/
theorem freezeArg_cSt (s : ESt) (i j : Nat) {t : Ty} {ys : List t.T} (h : (s.get (.arg i)).at j = .l .own t ys) :
    cSt { s with frz := s.frz ++ [(i, j)], dirty := (.arg i, none) :: s.dirty } = (cSt s).set (.arg i) { (cRV (s.get (.arg i))) with v := (cRV (s.get (.arg i))).v.setCell j (.d (.sl t.w (ys.map (encR t)))) } := by
  have happ : ∀ (l : List (Nat × Nat)) (args : List SVE), frzArgsE (l ++ [(i, j)]) args = lset (frzArgsE l args) i (frz1E ((frzArgsE l args).getD i .undef) j) := by
    intro l
    induction l with
    | nil => intro args; rfl
    | cons p l ih => intro args; obtain ⟨a, b⟩ := p; simp only [List.cons_append, frzArgsE]; exact ih _
  generalize hA : frzArgsE s.frz s.args = A at *
  have hget : ∀ q, (s.get (.arg q)).v = A.getD q .undef := fun q => by rw [← hA]; rfl
  have hat : (A.getD i .undef).cells.getD j .dead = .l .own t ys := by rw [← hget]; exact h
  have hf1 : frz1E (A.getD i .undef) j = (A.getD i .undef).setCell j (.l .data t ys) := by
    unfold frz1E; rw [hat]
  funext q
  cases q with
  | tmp t => rw [set_other _ _ (by simp)]; rfl
  | box k => rw [set_other _ _ (by simp)]; rfl
  | arg q =>
    show cRV { v := (frzArgsE (s.frz ++ [(i, j)]) s.args).getD q .undef } = _
    rw [happ, hA]
    have hi : i < A.length := by
      by_cases hi : i < A.length
      · exact hi
      · have e : A.getD i .undef = .undef := by rw [List.getD_eq_getElem?_getD, List.getElem?_eq_none (by omega)]; rfl
        rw [e] at hat
        simp [SVE.cells] at hat
    rw [lset_eq]
    by_cases hq : q = i
    · subst hq
      rw [set_same]
      simp only [cRV, List.getD_eq_getElem?_getD, List.getElem?_set_self hi, Option.getD_some]
      rw [← List.getD_eq_getElem?_getD, hf1, setCell_eq, hget]
      rfl
    · rw [set_other _ _ (by simpa using hq)]
      simp only [List.getD_eq_getElem?_getD, List.getElem?_set_ne (Ne.symm hq)]
      show cRV _ = cRV (s.get (.arg q))
      congr 1
      show _ = ({ v := (frzArgsE s.frz s.args).getD q .undef } : RVE)
      rw [hA, List.getD_eq_getElem?_getD]
theorem freezeAt_sim (r : Res) (j : Nat) (s : ESt) : Sim s (freezeAtE r j (s.get r)) (fun _ => ()) (freezeAt r j (cRV (s.get r))) := by
  unfold freezeAtE freezeAt
  rw [at_eq]
  cases hc : (s.get r).at j with
  | l m t xs =>
    cases m with
    | data => exact Sim.ret rfl
    | bor => exact Sim.fail
    | own =>
      cases r with
      | arg i =>
        unfold Sim
        refine ⟨[], [.arg i], ?_, by simp, by simp⟩
        show (putR (.arg i) _).both (cSt s) = some ((), cSt { s with frz := s.frz ++ [(i, j)], dirty := (.arg i, none) :: s.dirty }, [], [.arg i])
        rw [freezeArg_cSt s i j hc]
        rfl
      | _ => exact Sim.put rfl (by simp only [cRV, setCell_eq]; rfl) (Sim.ret rfl)
  | n m t o =>
    cases m with
    | data => refine Sim.call fun x hx => ?_; subst hx; exact Sim.ret rfl
    | bor => exact Sim.fail
    | own =>
      cases r with
      | arg i => exact Sim.fail
      | _ =>
        refine Sim.call fun ys hx => ?_
        subst hx
        exact Sim.put rfl (by simp only [cRV, setCell_eq]; rfl) (Sim.ret rfl)
  | _ => exact Sim.fail
theorem takeAt_sim (r : Res) (j : Nat) (s : ESt) : Sim s (takeAtE r j (s.get r)) (fun _ => ()) (takeAt r j (cRV (s.get r))) := by
  unfold takeAtE takeAt
  rw [at_eq]
  cases hc : (s.get r).at j with
  | l m t xs =>
    cases m with
    | own =>
      cases r with
      | arg i => exact Sim.putArg
      | _ => exact Sim.put rfl (by simp only [cRV, setCell_eq]; rfl) (Sim.ret rfl)
    | _ => exact Sim.fail
  | n m t o =>
    cases m with
    | own =>
      refine Sim.call fun ys hx => ?_
      subst hx
      cases r with
      | arg i => exact Sim.putArg
      | _ => exact Sim.put rfl (by simp only [cRV, setCell_eq]; rfl) (Sim.ret rfl)
    | _ => exact Sim.fail
  | _ => exact Sim.fail
/-- a nil list, written where one was -/
theorem cRV_same {x : RVE} {j : Nat} {c : E} (h : cE (x.at j) = cE c) (hd : cE c ≠ .dead) : cRV { x with v := x.v.setCell j c } = cRV x := by
  have h2 : (cSV x.v).cells.getD j .dead = cE c := by rw [← h]; exact at_eq x j
  have hj : j < (cSV x.v).cells.length := by
    rcases Nat.lt_or_ge j (cSV x.v).cells.length with hj | hj
    · exact hj
    · rw [List.getD_eq_getElem?_getD, List.getElem?_eq_none hj] at h2
      exact absurd h2.symm hd
  show ({ hv := x.hv, cv := x.cv, v := cSV (x.v.setCell j c) } : RV) = { hv := x.hv, cv := x.cv, v := cSV x.v }
  rw [setCell_eq, ← h2, setCell_same _ _ hj]
theorem isSome_none {α : Type} {o : Option α} (h : (false == o.isSome) = true) : o = none := by cases o <;> first | rfl | cases h
theorem isSome_some {α : Type} {o : Option α} (h : (true == o.isSome) = true) : ∃ x, o = some x := by
  cases o with
  | none => cases h
  | some x => exact ⟨x, rfl⟩
theorem freezeN_some (r : Res) (j : Nat) (s : ESt) : Sim s (freezeNE r j (s.get r) true) (fun _ => ()) (freezeAt r j (cRV (s.get r))) := by
  unfold freezeNE freezeAt
  rw [at_eq]
  cases hc : (s.get r).at j with
  | n m t o =>
    cases m with
    | data => refine Sim.br (fun h => ?_) fun _ => Sim.fail; obtain ⟨x, rfl⟩ := isSome_some h; exact Sim.ret rfl
    | bor => exact Sim.fail
    | own =>
      cases r with
      | arg i => exact Sim.fail
      | _ =>
        refine Sim.br (fun h => ?_) fun _ => Sim.fail
        obtain ⟨x, rfl⟩ := isSome_some h
        exact Sim.put rfl (by simp only [cRV, setCell_eq]; rfl) (Sim.ret rfl)
  | _ => exact Sim.fail
theorem freezeN_none (r : Res) (j : Nat) (s : ESt) : Sim s (freezeNE r j (s.get r) false) (fun _ => ()) (Prog.ret ()) := by
  unfold freezeNE
  cases hc : (s.get r).at j with
  | n m t o =>
    cases m with
    | data => exact Sim.br (fun _ => Sim.ret rfl) fun _ => Sim.fail
    | bor => exact Sim.fail
    | own =>
      cases r with
      | arg i => exact Sim.fail
      | _ =>
        refine Sim.br (fun h => ?_) fun _ => Sim.fail
        have := isSome_none h
        subst this
        exact Sim.putSame rfl (cRV_same (by rw [hc]; rfl) (by simp [cE])) (Sim.ret rfl)
  | _ => exact Sim.fail
theorem takeN_some (r : Res) (j : Nat) (s : ESt) : Sim s (takeNE r j (s.get r) true) (fun _ => ()) (takeAt r j (cRV (s.get r))) := by
  unfold takeNE takeAt
  rw [at_eq]
  cases hc : (s.get r).at j with
  | n m t o =>
    cases m with
    | own =>
      refine Sim.br (fun h => ?_) fun _ => Sim.fail
      obtain ⟨x, rfl⟩ := isSome_some h
      cases r with
      | arg i => exact Sim.putArg
      | _ => exact Sim.put rfl (by simp only [cRV, setCell_eq]; rfl) (Sim.ret rfl)
    | _ => exact Sim.fail
  | _ => exact Sim.fail
theorem takeN_none (r : Res) (j : Nat) (s : ESt) : Sim s (takeNE r j (s.get r) false) (fun _ => ()) (Prog.ret ()) := by
  unfold takeNE
  cases hc : (s.get r).at j with
  | n m t o =>
    cases m with
    | own =>
      refine Sim.br (fun h => ?_) fun _ => Sim.fail
      have := isSome_none h
      subst this
      cases r with
      | arg i => exact Sim.putArg
      | _ => exact Sim.putSame rfl (cRV_same (by rw [hc]; rfl) (by simp [cE])) (Sim.ret rfl)
    | _ => exact Sim.fail
  | _ => exact Sim.fail
/-- what it shows: the cell holds a list (b), or nil -/
theorem aliveN_sim {α β : Type} {j : Nat} {x : RVE} {b : Bool} {s : ESt} {k : Unit → PE α} {f : α → β} {q : Prog β} (h : (∃ t o, (x.at j = .n .own t o ∨ x.at j = .n .data t o) ∧ b = o.isSome) → Sim s (k ()) f q) : Sim s ((aliveNE j x b).bind k) f q := by
  have key : ∀ (t : Ty) (o : Option (List t.T)), (x.at j = .n .own t o ∨ x.at j = .n .data t o) → Sim s ((PE.br (b == o.isSome) (.ret ()) .fail).bind k) f q := by
    intro t o hx
    exact Sim.br (fun hb => h ⟨t, o, hx, by simpa using hb⟩) fun _ => trivial
  unfold aliveNE
  cases hc : x.at j with
  | n m t o =>
    cases m with
    | bor => exact Sim.fail
    | own => exact key t o (.inl hc)
    | data => exact key t o (.inr hc)
  | _ => exact Sim.fail
theorem resolveA_sim {α β : Type} {c : E} {s : ESt} {k : E → PE α} {f : α → β} {q : Prog β} (h : ∀ c', cE c' = cE c → Sim s (k c') f q) : Sim s ((resolveA c).bind k) f q := by
  cases c with
  | n m t o =>
    cases m with
    | bor r j hv cv i =>
      cases r with
      | arg a =>
        refine Sim.br (fun ho => ?_) fun ho => ?_
        · exact h _ (cE_n _ t o ho).symm
        · have : o = none := by cases o <;> first | rfl | cases ho
          subst this
          exact h .nil rfl
      | _ => exact h _ rfl
    | _ => exact h _ rfl
  | _ => exact h _ rfl
/-- both cases of a list that may be nil -/
theorem resolve_sim {α β : Type} {c : E} {s : ESt} {k : E → PE α} {f : α → β} {q : Prog β} (h : ∀ c', cE c' = cE c → (∀ m t o, c' ≠ .n m t o) → Sim s (k c') f q) : Sim s ((resolve c).bind k) f q := by
  cases c with
  | n m t o =>
    refine Sim.br (fun ho => ?_) fun ho => ?_
    · exact h _ (cE_n m t o ho).symm (by intro m t o h; cases h)
    · have : o = none := by cases o <;> first | rfl | cases ho
      subst this
      exact h .nil rfl (by intro m t o h; cases h)
  | _ => exact h _ rfl (by intro m t o h; cases h)
theorem resolveB_sim {α β : Type} {c : E} {s : ESt} {k : E → PE α} {f : α → β} {q : Prog β} (h : ∀ c', cE c' = cE c → (∀ r j hv cv i t o, c' ≠ .n (.bor r j hv cv i) t o) → Sim s (k c') f q) : Sim s ((resolveB c).bind k) f q := by
  cases c with
  | n m t o =>
    cases m with
    | bor r j hv cv i =>
      refine Sim.br (fun ho => ?_) fun ho => ?_
      · exact h _ (cE_n _ t o ho).symm (by intro r j hv cv i t o h; cases h)
      · have : o = none := by cases o <;> first | rfl | cases ho
        subst this
        exact h .nil rfl (by intro r j hv cv i t o h; cases h)
    | _ => exact h _ rfl (by intro r j hv cv i t o h; cases h)
  | _ => exact h _ rfl (by intro r j hv cv i t o h; cases h)
end Go.Ve
/- The typed evaluator keeps step: keeping, loading, storing, arithmetic. -/
namespace Go.Ve
open Go.Vs
theorem selfb (self : Option (Res × Nat)) (r : Res) (j : Nat) (b : Bool) : (selfIs self r j || b) = true ↔ (self = some (r, j) ∨ b = true) := by
  cases self with
  | none => simp [selfIs]
  | some p => obtain ⟨q, i⟩ := p; simp [selfIs, reqb_iff]
theorem takeAt_none {α β : Type} {r : Res} {j : Nat} {s : ESt} {t : Ty} (h : (s.get r).at j = .n .own t none) {k : Unit → PE α} {f : α → β} {q : Prog β} : Sim s ((takeAtE r j (s.get r)).bind k) f q := by
  unfold takeAtE
  rw [h]
  exact Sim.call fun x hx => by cases hx
theorem freezeAt_none {α β : Type} {r : Res} {j : Nat} {s : ESt} {t : Ty} (h : (s.get r).at j = .n .own t none) {k : Unit → PE α} {f : α → β} {q : Prog β} : Sim s ((freezeAtE r j (s.get r)).bind k) f q := by
  unfold freezeAtE
  rw [h]
  cases r with
  | arg i => exact Sim.fail
  | _ => exact Sim.call fun x hx => by cases hx
theorem stash1E_sim (self : Option (Res × Nat)) (take : Res → Bool) (c : E) (s : ESt) : Sim s (stash1E self take c) cE (stash self take (cE c)) := by
  cases c with
  | l m t xs =>
    cases m with
    | bor r j hv cv k =>
      simp only [stash1E, stash, cE, lC]
      cases hr : r.isArg with
      | true => simp only [if_true]; exact Sim.ret rfl
      | false =>
        simp only [Bool.false_eq_true, if_false]
        refine Sim.get ?_
        simp only [bindE_eq, bind_eq]
        refine Sim.sure fun hs => ?_
        simp only [Bool.and_eq_true, beq_iff_eq] at hs
        rw [need_bind (p := (cRV (s.get r)).hv = hv ∧ (cRV (s.get r)).cv = cv) hs]
        rw [at_eq]
        have body : ∀ (e0 : Nat) (ys0 : List (List D)), Sim s (match selfIs self r j || take r with
              | true => (takeAtE r j (s.get r)).bind fun _ => PE.ret (E.l .own t xs)
              | false => (freezeAtE r j (s.get r)).bind fun _ => PE.ret (E.l .data t xs)) cE
            (if self = some (r, j) ∨ take r = true then (takeAt r j (cRV (s.get r))).bind fun _ => Prog.ret (C.own t.w (xs.map (encR t)))
              else (freezeAt r j (cRV (s.get r))).bind fun _ => Prog.ret (C.d (D.sl t.w (xs.map (encR t))))) := by
          intro _ _
          cases hb : selfIs self r j || take r with
          | true =>
            rw [if_pos ((selfb self r j (take r)).1 hb)]
            exact Sim.bind (takeAt_sim r j s) fun _ _ => Sim.ret rfl
          | false =>
            rw [if_neg (fun h => by rw [(selfb self r j (take r)).2 h] at hb; cases hb)]
            exact Sim.bind (freezeAt_sim r j s) fun _ _ => Sim.ret rfl
        cases ha : (s.get r).at j with
        | l m' t' ys =>
          cases m' with
          | own => exact body 0 []
          | data => exact Sim.ret rfl
          | bor => exact Sim.fail
        | n m' t' o =>
          cases m' with
          | own =>
            cases o with
            | none =>
              simp only
              cases hb : selfIs self r j || take r with
              | true => exact takeAt_none ha
              | false => exact freezeAt_none ha
            | some ys => exact body 0 []
          | data => exact Sim.call fun x hx => by subst hx; exact Sim.ret rfl
          | bor => exact Sim.fail
        | _ => exact Sim.fail
    | _ => exact Sim.ret rfl
  | n m t o =>
    cases m with
    | bor r j hv cv k =>
      cases o with
      | none =>
        simp only [stash1E]
        cases hr : r.isArg with
        | true => exact Sim.ret rfl
        | false =>
          refine Sim.look ?_
          simp only [bindE_eq]
          refine Sim.sure fun hs => ?_
          cases ha : (s.get r).at j with
          | n m' t' o' =>
            cases m' with
            | own =>
              simp only
              cases hb : selfIs self r j || take r with
              | true => exact Sim.bind (k' := fun _ => Prog.ret (C.d .nil)) (q := Prog.ret ()) (f := fun _ => ()) (k := fun _ => PE.ret (E.n .own t none)) (takeN_none r j s) fun _ _ => Sim.ret rfl
              | false => exact Sim.bind (k' := fun _ => Prog.ret (C.d .nil)) (q := Prog.ret ()) (f := fun _ => ()) (k := fun _ => PE.ret (E.n .data t none)) (freezeN_none r j s) fun _ _ => Sim.ret rfl
            | data => exact aliveN_sim fun _ => Sim.ret rfl
            | bor => exact Sim.fail
          | _ => exact Sim.fail
      | some xs =>
        simp only [stash1E, stash, cE, lC]
        cases hr : r.isArg with
        | true => simp only [if_true]; exact Sim.ret rfl
        | false =>
          simp only [Bool.false_eq_true, if_false]
          refine Sim.get ?_
          simp only [bindE_eq, bind_eq]
          refine Sim.sure fun hs => ?_
          simp only [Bool.and_eq_true, beq_iff_eq] at hs
          rw [need_bind (p := (cRV (s.get r)).hv = hv ∧ (cRV (s.get r)).cv = cv) hs]
          rw [at_eq]
          have body : Sim s (match selfIs self r j || take r with
                | true => (takeNE r j (s.get r) true).bind fun _ => PE.ret (E.n .own t (some xs))
                | false => (freezeNE r j (s.get r) true).bind fun _ => PE.ret (E.n .data t (some xs))) cE
              (if self = some (r, j) ∨ take r = true then (takeAt r j (cRV (s.get r))).bind fun _ => Prog.ret (C.own t.w (xs.map (encR t)))
                else (freezeAt r j (cRV (s.get r))).bind fun _ => Prog.ret (C.d (D.sl t.w (xs.map (encR t))))) := by
            cases hb : selfIs self r j || take r with
            | true =>
              rw [if_pos ((selfb self r j (take r)).1 hb)]
              exact Sim.bind (takeN_some r j s) fun _ _ => Sim.ret rfl
            | false =>
              rw [if_neg (fun h => by rw [(selfb self r j (take r)).2 h] at hb; cases hb)]
              exact Sim.bind (freezeN_some r j s) fun _ _ => Sim.ret rfl
          cases ha : (s.get r).at j with
          | n m' t' o' =>
            cases m' with
            | own =>
              cases o' with
              | none =>
                simp only
                have no : ∀ (x : RVE), x.at j = .n .own t' none → ∀ {k : Unit → PE E} {q : Prog C}, Sim s ((takeNE r j x true).bind k) cE q ∧ Sim s ((freezeNE r j x true).bind k) cE q := by
                  intro x hx k q
                  constructor
                  · unfold takeNE; rw [hx]; exact Sim.br (fun h => by cases h) fun _ => trivial
                  · unfold freezeNE; rw [hx]; cases r with
                    | arg i => exact Sim.fail
                    | _ => exact Sim.br (fun h => by cases h) fun _ => trivial
                cases hb : selfIs self r j || take r with
                | true => exact (no _ ha).1
                | false => exact (no _ ha).2
              | some ys => exact body
            | data =>
              refine aliveN_sim fun ⟨t2, o2, h1, h2⟩ => ?_
              rw [ha] at h1
              cases o' with
              | none => (rcases h1 with h1 | h1 <;> cases h1); cases h2
              | some ys => exact Sim.ret rfl
            | bor => exact Sim.fail
          | _ => exact Sim.fail
    | _ => cases o <;> exact Sim.ret rfl
  | dead => exact Sim.fail
  | gone b => exact Sim.fail
  | _ => exact Sim.ret rfl
theorem stashE_sim (self : Option (Res × Nat)) (take : Res → Bool) (c : E) (s : ESt) : Sim s (stashE self take c) cE (stash self take (cE c)) := by
  exact stash1E_sim self take c s
theorem stashesE_sim (mk : Nat → Res × Nat) (take : Res → Bool) : ∀ (cs : List E) (i : Nat) (s : ESt), Sim s (stashesE mk take i cs) cEs (stashes mk take i (cEs cs))
  | [], i, s => Sim.ret rfl
  | c :: cs, i, s => by
    show Sim s (stashesE mk take i (c :: cs)) cEs (stashes mk take i (cE c :: cEs cs))
    simp only [stashesE, stashes, bindE_eq, bind_eq]
    exact Sim.bind (stashE_sim _ take c s) fun c' s1 => Sim.bind (stashesE_sim mk take cs (i + 1) s1) fun cs' s2 => Sim.ret rfl
theorem stashTupE_sim (mk : Nat → Res × Nat) (take : Res → Bool) : ∀ (vs : List (Bool × List E)) (i : Nat) (s : ESt), Sim s (stashTupE mk take i vs) cTup (stashTup mk take i (cTup vs))
  | [], i, s => Sim.ret rfl
  | (b, cs) :: vs, i, s => by
    show Sim s (stashTupE mk take i ((b, cs) :: vs)) cTup (stashTup mk take i ((b, cEs cs) :: cTup vs))
    simp only [stashTupE, stashTup, bindE_eq, bind_eq, cEs_length]
    exact Sim.bind (stashesE_sim mk take cs i s) fun c' s1 => Sim.bind (stashTupE_sim mk take vs _ s1) fun cs' s2 => Sim.ret rfl
theorem stashSVE_sim (r : Res) (take : Res → Bool) (v : SVE) (s : ESt) : Sim s (stashSVE r take v) cSV (stashSV r take (cSV v)) := by
  cases v with
  | one c =>
    show Sim s (stashSVE r take (.one c)) cSV (stashSV r take (.one (cE c)))
    simp only [stashSVE, stashSV, bindE_eq, bind_eq]
    exact Sim.bind (stashE_sim _ take c s) fun c' s1 => Sim.ret rfl
  | agg cs =>
    show Sim s (stashSVE r take (.agg cs)) cSV (stashSV r take (.agg (cEs cs)))
    simp only [stashSVE, stashSV, bindE_eq, bind_eq]
    exact Sim.bind (stashesE_sim _ take cs 0 s) fun c' s1 => Sim.ret rfl
  | tup vs =>
    show Sim s (stashSVE r take (.tup vs)) cSV (stashSV r take (.tup (cTup vs)))
    simp only [stashSVE, stashSV, bindE_eq, bind_eq]
    exact Sim.bind (stashTupE_sim _ take vs 0 s) fun c' s1 => Sim.ret rfl
  | undef => exact Sim.fail
/-! ## As data -/
theorem isData_some {c : E} (h : isData c = true) : ∃ d, cE c = .d d := by
  cases c with
  | l m t xs => cases m <;> first | exact ⟨_, rfl⟩ | cases h
  | n m t o => cases m <;> cases o <;> first | exact ⟨_, rfl⟩ | cases h
  | _ => first | exact ⟨_, rfl⟩ | cases h
def unD : C → D
  | .d x => x
  | _ => .nil
def unDE (c : E) : D := unD (cE c)
theorem toD1E_sim (c : E) (s : ESt) : Sim s (toD1E c) unDE (toD (cE c)) := by
  have dat : ∀ {c : E}, isData c = true → toD1E c = PE.ret c → Sim s (toD1E c) unDE (toD (cE c)) := by
    intro c hd he
    rw [he]
    obtain ⟨d, h⟩ := isData_some hd
    refine Sim.eqP (Sim.ret rfl) ?_
    unfold unDE
    rw [h]
    rfl
  cases c with
  | l m t xs =>
    cases m with
    | bor r j hv cv k =>
      simp only [toD1E, toD, cE, lC]
      refine Sim.get ?_
      simp only [bindE_eq, bind_eq]
      refine Sim.sure fun hs => ?_
      simp only [Bool.and_eq_true, beq_iff_eq] at hs
      rw [need_bind (p := (cRV (s.get r)).hv = hv ∧ (cRV (s.get r)).cv = cv) hs]
      exact Sim.bind (freezeAt_sim r j s) fun _ _ => Sim.ret rfl
    | data => exact dat rfl rfl
    | own => exact Sim.fail
  | n m t o =>
    cases m with
    | bor r j hv cv k =>
      cases o with
      | none =>
        simp only [toD1E]
        refine Sim.look ?_
        simp only [bindE_eq]
        refine Sim.sure fun hs => ?_
        exact Sim.bind (k' := fun _ => Prog.ret D.nil) (q := Prog.ret ()) (f := fun _ => ()) (k := fun _ => PE.ret (E.n .data t none)) (freezeN_none r j s) fun _ _ => Sim.ret rfl
      | some xs =>
        simp only [toD1E, toD, cE, lC]
        refine Sim.get ?_
        simp only [bindE_eq, bind_eq]
        refine Sim.sure fun hs => ?_
        simp only [Bool.and_eq_true, beq_iff_eq] at hs
        rw [need_bind (p := (cRV (s.get r)).hv = hv ∧ (cRV (s.get r)).cv = cv) hs]
        exact Sim.bind (freezeN_some r j s) fun _ _ => Sim.ret rfl
    | data => exact dat rfl rfl
    | own => exact Sim.fail
  | i => exact dat rfl rfl
  | b => exact dat rfl rfl
  | tt => exact dat rfl rfl
  | ff => exact dat rfl rfl
  | s => exact dat rfl rfl
  | nil => exact dat rfl rfl
  | nul => exact dat rfl rfl
  | _ => exact Sim.fail
/-- what toDE gives is data -/
theorem toDE_sim (c : E) (s : ESt) : Sim s (toDE c) unDE (toD (cE c)) := by
  unfold toDE
  simp only [bindE_eq]
  refine resolveA_sim fun c' h1 => ?_
  rw [← h1]
  exact toD1E_sim c' s
theorem toDsE_sim : ∀ (cs : List E) (s : ESt), Sim s (toDsE cs) (List.map unDE) (toDs (cEs cs))
  | [], s => Sim.ret rfl
  | c :: cs, s => by
    show Sim s (toDsE (c :: cs)) _ (toDs (cE c :: cEs cs))
    simp only [toDsE, toDs, bindE_eq, bind_eq]
    exact Sim.bind (toDE_sim c s) fun c' s1 => Sim.bind (toDsE_sim cs s1) fun cs' s2 => Sim.ret rfl
theorem row_unD {t : Ty} {cs : List E} {x : t.T} (h : rowT t cs = some x) : (cs.map unDE) = encR t x := by
  have := rowT_eq h
  have h2 := congrArg (List.map unD) this
  simp only [cEs, List.map_map] at h2
  have e : (unD ∘ C.d) = id := by funext d; rfl
  rw [e, List.map_id] at h2
  exact h2
theorem asCells_eq (v : SVE) : (cSV v).asCells = v.asCells.map cEs := by cases v <;> rfl
theorem cast_map {t t' : Ty} (h : t' = t) (xs : List t'.T) : (h ▸ xs : List t.T).map (encR t) = xs.map (encR t') := by subst h; rfl
theorem cast_opt {t t' : Ty} (h : t' = t) (o : Option (List t'.T)) : ((h ▸ o : Option (List t.T)).getD []).map (encR t) = (o.getD []).map (encR t') := by subst h; rfl
theorem elems1E_sim (t : Ty) (c : E) (s : ESt) : Sim s (elems1E t c) (List.map (encR t)) (elems t.w (cE c)) := by
  cases c with
  | nil => exact Sim.ret rfl
  | l m t' xs =>
    cases m with
    | own => exact Sim.fail
    | data =>
      simp only [elems1E, elems, cE, lC, bind_eq]
      split
      · rename_i h
        subst h
        rw [need_bind rfl]
        exact Sim.ret rfl
      · exact Sim.fail
    | bor r j hv cv k =>
      simp only [elems1E, elems, cE, lC]
      refine Sim.get ?_
      simp only [bind_eq]
      cases hs : (s.get r).hv == hv && (s.get r).cv == cv with
      | false => exact Sim.fail
      | true =>
        simp only [Bool.and_eq_true, beq_iff_eq] at hs
        have fin : alive (cRV (s.get r)) j = true → Sim s (if h : t' = t then PE.ret (h ▸ xs) else .fail) (List.map (encR t)) ((need ((cRV (s.get r)).hv = hv ∧ (cRV (s.get r)).cv = cv ∧ alive (cRV (s.get r)) j = true ∧ t'.w = t.w)).bind fun _ => Prog.ret (xs.map (encR t'))) := by
          intro hal
          split
          · rename_i h
            subst h
            rw [need_bind ⟨hs.1, hs.2, hal, rfl⟩]
            exact Sim.ret rfl
          · exact Sim.fail
        cases ha : (s.get r).at j with
        | l m' t2 ys =>
          cases m' with
          | bor => exact Sim.fail
          | _ => exact fin (by unfold alive; rw [at_eq, ha]; rfl)
        | n m' t2 o =>
          cases m' with
          | bor => exact Sim.fail
          | _ => exact Sim.call fun x hx => by subst hx; exact fin (by unfold alive; rw [at_eq, ha]; rfl)
        | _ => exact Sim.fail
  | n m t' o =>
    cases m with
    | bor r j hv cv k =>
      cases o with
      | none =>
        simp only [elems1E]
        refine Sim.look ?_
        cases hs : (s.get r).hv == hv && (s.get r).cv == cv with
        | false => exact Sim.fail
        | true =>
          simp only [bindE_eq]
          refine aliveN_sim fun _ => ?_
          split
          · rename_i h
            subst h
            exact Sim.ret rfl
          · exact Sim.fail
      | some xs =>
        simp only [elems1E, elems, cE, lC]
        refine Sim.get ?_
        simp only [bind_eq]
        cases hs : (s.get r).hv == hv && (s.get r).cv == cv with
        | false => exact Sim.fail
        | true =>
          simp only [Bool.and_eq_true, beq_iff_eq] at hs
          simp only [bindE_eq]
          refine aliveN_sim fun ⟨t2, o2, h1, h2⟩ => ?_
          obtain ⟨ys, rfl⟩ := isSome_some (o := o2) (by rw [← h2]; rfl)
          have hal : alive (cRV (s.get r)) j = true := by unfold alive; rw [at_eq]; rcases h1 with h1 | h1 <;> rw [h1] <;> rfl
          split
          · rename_i h
            subst h
            rw [need_bind ⟨hs.1, hs.2, hal, rfl⟩]
            exact Sim.ret rfl
          · exact Sim.fail
    | own => exact Sim.fail
    | data =>
      simp only [elems1E]
      split
      · rename_i h
        subst h
        cases o with
        | none => exact Sim.ret rfl
        | some xs =>
          show Sim s _ _ ((need (t'.w = t'.w)).bind fun _ => .ret (xs.map (encR t')))
          rw [need_bind rfl]
          exact Sim.ret rfl
      · exact Sim.fail
  | _ => exact Sim.fail
theorem elemsE_sim (t : Ty) (c : E) (s : ESt) : Sim s (elemsE t c) (List.map (encR t)) (elems t.w (cE c)) := by
  exact elems1E_sim t c s
/-! ## Arithmetic -/
theorem binIntE_sim (op : BinOp) (k : IntKind) (a b : Int) (s : ESt) : Sim s (binIntE op k a b) cSV (binInt op k a b) := by
  cases op with
  | quo =>
    simp only [binIntE, binInt, bindE_eq, bind_eq]
    exact Sim.ask fun h => by rw [need_bind (of_decide_eq_true h)]; exact Sim.ret rfl
  | rem =>
    simp only [binIntE, binInt, bindE_eq, bind_eq]
    exact Sim.ask fun h => by rw [need_bind (of_decide_eq_true h)]; exact Sim.ret rfl
  | _ => first | exact Sim.ret rfl | exact Sim.fail
theorem binStrE_sim (op : BinOp) (a b : List UInt8) (s : ESt) : Sim s (binStrE op a b) cSV (binStr op a b) := by
  cases op with
  | add =>
    simp only [binStrE, binStr, bindE_eq, bind_eq]
    exact Sim.ask fun h => by rw [need_bind (by have := of_decide_eq_true h; omega)]; exact Sim.ret rfl
  | _ => first | exact Sim.ret rfl | exact Sim.fail
theorem boolOf_eq {c : E} {b : Bool} (h : boolOf c = some b) : cE c = .d (.bool b) := by
  cases c <;> first | (cases h; rfl) | (cases h; done)
theorem binBoolE_sim (cfg : Cfg) (t : TypeId) (op : BinOp) (x y : E) (s : ESt) : Sim s (binBoolE cfg t op x y) cSV (binP cfg t op (cE x) (cE y)) := by
  unfold binBoolE
  cases hx : boolOf x with
  | none => exact Sim.fail
  | some a =>
    cases hy : boolOf y with
    | none => exact Sim.fail
    | some b =>
      simp only
      rw [boolOf_eq hx, boolOf_eq hy]
      simp only [binP]
      cases hb : ECfgBool cfg t with
      | false => exact Sim.fail
      | true =>
        obtain ⟨sz, by', z, hti⟩ : ∃ sz by' z, cfg.ti t = some ⟨sz, by', .bool, z⟩ := by
          unfold ECfgBool at hb
          split at hb
          · rename_i sz by' z h; exact ⟨sz, by', z, h⟩
          · cases hb
        rw [hti]
        cases op <;> first | exact Sim.ret rfl | exact Sim.fail
theorem nilE_eq {c : E} {b : Bool} (h : nilE c = some b) : slNil (cE c) = some b := by
  cases c with
  | l m t xs => cases m <;> exact h
  | n m t o => cases o <;> cases m <;> exact h
  | nil => exact h
  | _ => cases h
theorem binNilE_sim (cfg : Cfg) (t : TypeId) (op : BinOp) (x : E) (s : ESt) : Sim s (binNilE cfg t op x) cSV (binP cfg t op (cE x) (cE .nil)) := by
  unfold binNilE
  cases hn : nilE x with
  | none => cases isSlT cfg t <;> cases op <;> exact Sim.fail
  | some b =>
    have h1 := nilE_eq hn
    have e : binP cfg t op (cE x) (cE .nil) = binNilP cfg t op (cE x) := by
      show binP cfg t op (cE x) (.d .nil) = _
      cases hc : cE x with
      | d y => cases y <;> rfl
      | _ => rfl
    rw [e]
    unfold binNilP
    cases hb : isSlT cfg t with
    | false => exact Sim.fail
    | true =>
      obtain ⟨sz, by', et, z, hti⟩ : ∃ sz by' et z, cfg.ti t = some ⟨sz, by', .slice et, z⟩ := by
        unfold isSlT at hb
        split at hb
        · rename_i sz by' et z h; exact ⟨sz, by', et, z, h⟩
        · cases hb
      rw [hti, h1]
      cases op <;> first | exact Sim.ret rfl | exact Sim.fail
theorem binE_sim (cfg : Cfg) (t : TypeId) (op : BinOp) (x y : E) (s : ESt) : Sim s (binE cfg t op x y) cSV (binP cfg t op (cE x) (cE y)) := by
  unfold binE
  split
  · rename_i k a k' b
    simp only [binP, cE]
    split
    · simp only [bindE_eq, bind_eq]
      exact Sim.ask fun h => by rw [need_bind (of_decide_eq_true h)]; exact Sim.ret rfl
    · simp only [bindE_eq, bind_eq]
      exact Sim.ask fun h => by rw [need_bind (of_decide_eq_true h)]; exact Sim.ret rfl
    · rename_i h1 h2
      split
      · rename_i h; subst h
        refine Sim.eqP (binIntE_sim _ _ _ _ s) ?_
        cases op <;> first | rfl | exact (h1 rfl).elim | exact (h2 rfl).elim
      · exact Sim.fail
  · exact binStrE_sim _ _ _ s
  · exact binNilE_sim _ _ _ _ s
  · exact binBoolE_sim cfg t op _ _ s
theorem eqEs_eq : ∀ {sh : List Sc} {xs ys : List E} {r : Bool}, eqEs sh xs ys = some r → ∃ ds es, datas (cEs xs) = some ds ∧ datas (cEs ys) = some es ∧ r = eqDs ds es ∧ fitSc sh ds = true ∧ fitSc sh es = true
  | sh, xs, ys, r, h => by
    unfold eqEs at h
    split at h
    · cases h; exact ⟨[], [], rfl, rfl, rfl, rfl, rfl⟩
    · rename_i k sh' k1 a xs' k2 b ys'
      split at h
      · rename_i hk
        obtain ⟨rfl, rfl⟩ := hk
        split at h
        · rename_i r' hr
          cases h
          obtain ⟨ds, es, h1, h2, h3, h4, h5⟩ := eqEs_eq hr
          exact ⟨.int k2 a :: ds, .int k2 b :: es, by simp only [cEs, List.map_cons, cE, datas] at h1 ⊢; rw [h1], by simp only [cEs, List.map_cons, cE, datas] at h2 ⊢; rw [h2], by simp only [eqDs, eqD, h3], by simp [fitSc, h4], by simp [fitSc, h5]⟩
        · cases h
      · cases h
    · rename_i sh' a xs' b ys'
      split at h
      · rename_i r' hr
        cases h
        obtain ⟨ds, es, h1, h2, h3, h4, h5⟩ := eqEs_eq hr
        exact ⟨.str a :: ds, .str b :: es, by simp only [cEs, List.map_cons, cE, datas] at h1 ⊢; rw [h1], by simp only [cEs, List.map_cons, cE, datas] at h2 ⊢; rw [h2], by simp only [eqDs, eqD, h3], by simp [fitSc, h4], by simp [fitSc, h5]⟩
      · cases h
    · rename_i sh' x xs' y ys'
      split at h
      · rename_i a b r' hx hy hr
        cases h
        obtain ⟨ds, es, h1, h2, h3, h4, h5⟩ := eqEs_eq hr
        exact ⟨.bool a :: ds, .bool b :: es, by simp only [cEs, List.map_cons] at h1 ⊢; rw [boolOf_eq hx]; simp only [datas, h1], by simp only [cEs, List.map_cons] at h2 ⊢; rw [boolOf_eq hy]; simp only [datas, h2], by simp only [eqDs, eqD, h3], by simp [fitSc, h4], by simp [fitSc, h5]⟩
      · cases h
    · cases h
theorem eqAggE_sim (cfg : Cfg) (t : TypeId) (op : BinOp) (xs ys : List E) (s : ESt) : Sim s (eqAggE cfg t op xs ys) cSV (eqAgg cfg t op (cEs xs) (cEs ys)) := by
  unfold eqAggE eqAgg
  cases lk t cfg.eqs with
  | none => exact Sim.fail
  | some sh =>
    simp only
    split
    · rename_i r h2
      obtain ⟨ds, es, g1, g2, g3, g4, g5⟩ := eqEs_eq h2
      rw [g1, g2, g3]
      simp only [g4, g5, Bool.and_self, if_true]
      exact Sim.ret rfl
    · rename_i r h2
      obtain ⟨ds, es, g1, g2, g3, g4, g5⟩ := eqEs_eq h2
      rw [g1, g2, g3]
      simp only [g4, g5, Bool.and_self, if_true]
      exact Sim.ret rfl
    · exact Sim.fail
/-! ## Loading -/
theorem nlt_iff (a b : Nat) : nlt a b = true ↔ a < b := by simp [nlt, Nat.ble_eq]; omega
theorem cEs_drop_take (cs : List E) (a b : Nat) : cEs ((cs.drop a).take b) = ((cEs cs).drop a).take b := by simp [cEs, List.map_take, List.map_drop]
theorem cE_dead {c : E} (h : c ≠ .dead) (hg : ∀ b, c ≠ .gone b) : cE c ≠ .dead := by
  cases c with
  | gone b => exact absurd rfl (hg b)
  | l m t xs => cases m <;> simp [cE, lC]
  | n m t o => cases m <;> cases o <;> simp [cE, lC]
  | dead => exact absurd rfl h
  | _ => simp [cE]
theorem slice1E_sim (i : TI) (cs : List E) (off : Nat) (s : ESt) : Sim s (slice1E i cs off) cSV (slice1 i (cEs cs) off) := by
  unfold slice1E slice1
  simp only [bind_eq]
  split
  · rename_i h
    simp only [Bool.and_eq_true, nlt_iff, Nat.ble_eq] at h
    rw [need_bind (by simpa using h)]
    split
    · rename_i ha
      rw [if_pos ha]
      exact Sim.ret (by simp only [cSV, cEs_drop_take])
    · rename_i ha
      rw [if_neg (by simp [ha])]
      have hg : (cEs cs)[off]? = (cs[off]?).map cE := by simp [cEs]
      rw [hg]
      cases hc : cs[off]? with
      | none => exact Sim.fail
      | some c =>
        simp only [Option.map_some]
        by_cases hd : c = .dead
        · subst hd; exact Sim.fail
        · by_cases hg : ∃ b, c = .gone b
          · obtain ⟨b, rfl⟩ := hg; exact Sim.fail
          have hg : ∀ b, c ≠ .gone b := fun b hb => hg ⟨b, hb⟩
          have h1 := cE_dead hd hg
          have e1 : (match (some c : Option E) with | some .dead => PE.fail | some (.gone _) => PE.fail | some c => PE.ret (SVE.one c) | none => .fail) = PE.ret (.one c) := by
            split
            · rename_i heq; cases heq; exact absurd rfl hd
            · rename_i b heq; cases heq; exact absurd rfl (hg b)
            · rename_i heq; cases heq; rfl
            · rename_i heq; cases heq
          have e2 : ∀ x : C, x ≠ .dead → (match (some x : Option C) with | some .dead => Prog.fail | some c => Prog.ret (SV.one c) | none => .fail) = Prog.ret (.one x) := by
            intro x hx
            cases x <;> first | rfl | exact absurd rfl hx
          exact Sim.eqP (by show Sim s (match (some c : Option E) with | some .dead => PE.fail | some (.gone _) => PE.fail | some c => PE.ret (SVE.one c) | none => .fail) cSV (Prog.ret (.one (cE c))); rw [e1]; exact Sim.ret rfl) (e2 _ h1)
  · exact Sim.fail
theorem getD_getElem {α : Type} (l : List α) (n : Nat) (d : α) (h : n < l.length) : l[n]? = some (l.getD n d) := by
  rw [List.getD_eq_getElem?_getD, List.getElem?_eq_getElem h]; rfl
theorem loadE_sim (i : TI) (a : E) (s : ESt) : Sim s (loadE i a) cSV (loadP i (cE a)) := by
  cases a with
  | ptr k off =>
    simp only [loadE, loadP, cE]
    refine Sim.get ?_
    cases hv : (s.get (.box k)).v with
    | agg cs =>
      simp only [cRV, hv, cSV]
      refine Sim.eqP (slice1E_sim i _ off s) ?_
      rw [bcells_eq]
      simp only [cRV, hv, cSV]
    | _ => simp only [cRV, hv, cSV]; exact Sim.fail
  | ea r j hv t n off =>
    simp only [loadE, loadP, cE]
    refine Sim.get ?_
    simp only [bind_eq]
    cases hs : (s.get r).hv == hv with
    | false => exact Sim.fail
    | true =>
      simp only [beq_iff_eq] at hs
      rw [need_bind (p := (cRV (s.get r)).hv = hv) hs]
      rw [at_eq]
      have fin : ∀ (t : Ty) (ys : List t.T), Sim s ((do ask (nlt n ys.length); slice1E i (cellsT t (ys.getD n t.zero)) off : PE SVE)) cSV (match (ys.map (encR t))[n]? with | some ds => slice1 i (ds.map .d) off | none => .fail) := by
        intro t ys
        simp only [bindE_eq]
        refine Sim.ask fun h => ?_
        rw [nlt_iff] at h
        rw [List.getElem?_map, getD_getElem ys n t.zero h]
        simp only [Option.map_some]
        rw [← cells_enc]
        exact slice1E_sim i _ off s
      cases ha : (s.get r).at j with
      | l m t ys =>
        cases m with
        | bor => exact Sim.fail
        | _ => exact fin t ys
      | n m t o =>
        cases m with
        | bor => exact Sim.fail
        | _ =>
          cases o with
          | none => simp only [bindE_eq]; exact Sim.ask fun h => by simp [nlt_iff] at h
          | some ys => exact fin t ys
      | _ => exact Sim.fail
  | da t x off =>
    simp only [loadE, loadP, cE]
    refine Sim.eqP (slice1E_sim i _ 0 s) ?_
    congr 1
    have := congrArg (List.drop off) (cells_enc t x)
    simp only [cEs, ← List.map_drop] at this
    exact this.symm
  | l m t xs => cases m <;> exact Sim.fail
  | n m t o => cases m <;> cases o <;> exact Sim.fail
  | _ => exact Sim.fail
/-! ## Storing -/
theorem splice_map {α β : Type} (f : α → β) (l : List α) (off : Nat) (m : List α) : (splice l off m).map f = splice (l.map f) off (m.map f) := by simp [splice, List.map_take, List.map_drop]
theorem cEs_splice (l : List E) (off : Nat) (m : List E) : cEs (splice l off m) = splice (cEs l) off (cEs m) := splice_map cE l off m
theorem storeE_sim (take take' : Res → Bool) (htk : take = take') (i : TI) (a : E) (v : SVE) (s : ESt) : Sim s (storeE take i a v) (fun _ => ()) (storeP take' i (cE a) (cSV v)) := by
  subst htk
  unfold storeE storeP
  rw [asCells_eq]
  cases hv : v.asCells with
  | none =>
    simp only [Option.map_none]
    cases a <;> exact Sim.fail
  | some cs =>
    simp only [Option.map_some]
    cases a with
    | ptr k off =>
      simp only [cE, bindE_eq, bind_eq, cEs_length]
      refine Sim.sure fun h => ?_
      rw [need_bind (by simpa using h)]
      refine Sim.bind (stashesE_sim _ take cs 0 s) fun cs' s1 => Sim.get ?_
      cases hb : (s1.get (.box k)).v with
      | agg old =>
        simp only [cRV, hb, cSV, cEs_length]
        refine Sim.sure fun h2 => ?_
        simp only [Bool.and_eq_true, Nat.ble_eq] at h2
        rw [need_bind h2.1]
        refine Sim.wr hb ?_ (Sim.ret rfl)
        rw [overE_splice _ _ _ h2.2, cEs_splice]
      | _ => simp only [cRV, hb, cSV]; exact Sim.fail
    | ea r j hv t0 n off =>
      simp only [cE, bindE_eq, bind_eq, cEs_length]
      refine Sim.sure fun h => ?_
      have hlen : cs.length = i.size := by simpa using h
      rw [need_bind hlen]
      refine Sim.bind (toDsE_sim cs s) fun ds s1 => Sim.get ?_
      refine Sim.sure fun h2 => ?_
      simp only [Bool.and_eq_true, beq_iff_eq, Bool.not_eq_true'] at h2
      rw [need_bind (p := (cRV (s1.get r)).hv = hv ∧ r.isArg = false) h2]
      rw [at_eq]
      have fin : ∀ (t : Ty) (ys : List t.T), Sim s1 ((ask (nlt n ys.length)).bind fun _ => (sure (Nat.ble (off + i.size) t.w)).bind fun _ => match rowT t (splice (cellsT t (ys.getD n t.zero)) off ds) with
            | some row' => putE r { (s1.get r) with cv := (s1.get r).cv + 1, v := (s1.get r).v.setCell j (.l .own t (ys.set n row')) }
            | none => .fail) (fun _ => ()) (match (ys.map (encR t))[n]? with
          | some row => (need (off + i.size ≤ row.length)).bind fun _ => putR r { (cRV (s1.get r)) with cv := (cRV (s1.get r)).cv + 1, v := (cRV (s1.get r)).v.setCell j (.own t.w ((ys.map (encR t)).set n (splice row off (ds.map unDE)))) }
          | none => .fail) := by
        intro t ys
        refine Sim.ask fun h => ?_
        rw [nlt_iff] at h
        refine Sim.sure fun h3 => ?_
        rw [List.getElem?_map, getD_getElem ys n t.zero h]
        simp only [Option.map_some]
        rw [need_bind (by rw [encR_length]; simpa [Nat.ble_eq] using h3)]
        cases hrow : rowT t (splice (cellsT t (ys.getD n t.zero)) off ds) with
        | none => exact Sim.fail
        | some row' =>
          refine Sim.put h2.2 ?_ (Sim.ret rfl)
          simp only [cRV, setCell_eq, cE, lC]
          congr 3
          rw [List.map_set]
          congr 1
          rw [← row_unD hrow, splice_map]
          congr 1
          have := congrArg (List.map unD) (cells_enc t (ys.getD n t.zero))
          simp only [cEs, List.map_map] at this
          have e : (unD ∘ C.d) = id := by funext d; rfl
          rw [e, List.map_id] at this
          exact this.symm
      cases ha : (s1.get r).at j with
      | l m t ys =>
        cases m with
        | own => exact fin t ys
        | _ => exact Sim.fail
      | n m t o =>
        cases m with
        | own =>
          cases o with
          | none => exact Sim.ask fun h => by simp [nlt_iff] at h
          | some ys => exact fin t ys
        | _ => exact Sim.fail
      | _ => exact Sim.fail
    | l m t xs => cases m <;> exact Sim.fail
    | n m t o => cases m <;> cases o <;> exact Sim.fail
    | _ => exact Sim.fail
end Go.Ve
/- The typed evaluator keeps step: addresses, building, slices, calls, regions. -/
namespace Go.Ve
open Go.Vs
theorem fieldE_sim (cfg : Cfg) (t : TypeId) (c : E) (f : Nat) (s : ESt) : Sim s (fieldE cfg t c f) cE (fieldP cfg t (cE c) f) := by
  unfold fieldE fieldP
  split
  · rename_i h0
    simp only [h0, bindE_eq, bind_eq]
    split
    · rename_i h1
      simp only [h1]
      split
      · rename_i h2
        simp only [h2]
        refine Sim.sure fun h => ?_
        rw [need_bind (by simpa using h)]
        cases c with
        | ptr k off => exact Sim.ret rfl
        | ea r j hv t n off => exact Sim.ret rfl
        | da t x off =>
          simp only [cE]
          refine Sim.sure fun h => ?_
          rw [need_bind (by rw [List.length_drop, encR_length]; have := Nat.ble_eq.mp h; omega)]
          exact Sim.ret (by simp only [cE, List.drop_drop])
        | l m t xs => cases m <;> exact Sim.fail
        | n m t o => cases m <;> cases o <;> exact Sim.fail
        | _ => exact Sim.fail
      · exact Sim.fail
    · exact Sim.fail
  · exact Sim.fail
theorem indexAddrE_sim (cfg : Cfg) (t : TypeId) (c : E) (n : Int) (s : ESt) : Sim s (indexAddrE cfg t c n) cE (indexAddrP cfg t (cE c) n) := by
  unfold indexAddrE indexAddrP
  split
  · rename_i h0
    simp only [h0, bindE_eq, bind_eq]
    split
    · rename_i i hi
      simp only [hi]
      have bor : ∀ (r : Res) (j hv cv k : Nat) (t : Ty) (xs : List t.T), decide (0 ≤ n ∧ n < xs.length) = true → Sim s ((sure (i.size == t.w)).bind fun _ => PE.ret (E.ea r j hv t (k + n.toNat) 0)) cE
          ((need (0 ≤ n ∧ n < (xs.map (encR t)).length)).bind fun _ => (need (i.size = t.w)).bind fun _ => Prog.ret (C.ea r j hv t.w (k + n.toNat) 0)) := by
        intro r j hv cv k t xs h
        rw [need_bind (by simpa using of_decide_eq_true h)]
        exact Sim.sure fun h2 => by rw [need_bind (by simpa using h2)]; exact Sim.ret rfl
      have dat : ∀ (t : Ty) (xs : List t.T), decide (0 ≤ n ∧ n < xs.length) = true → Sim s ((sure (i.size == t.w)).bind fun _ => PE.ret (E.da t (xs.getD n.toNat t.zero) 0)) cE
          ((need (0 ≤ n ∧ n < (xs.map (encR t)).length)).bind fun _ => (need (i.size = t.w)).bind fun _ => match (xs.map (encR t))[n.toNat]? with | some ds => Prog.ret (C.da ds) | none => .fail) := by
        intro t xs h
        have h1 := of_decide_eq_true h
        rw [need_bind (by simpa using h1)]
        refine Sim.sure fun h2 => ?_
        rw [need_bind (by simpa using h2), List.getElem?_map, getD_getElem xs n.toNat t.zero (by omega)]
        exact Sim.ret rfl
      cases c with
      | l m t xs =>
        cases m with
        | own => exact Sim.fail
        | bor r j hv cv k => exact Sim.ask fun h => bor r j hv cv k t xs h
        | data => exact Sim.ask fun h => dat t xs h
      | n m t o =>
        cases m with
        | own => cases o <;> exact Sim.fail
        | bor r j hv cv k =>
          refine Sim.ask fun h => ?_
          cases o with
          | none => have := of_decide_eq_true h; simp [lenI] at this; omega
          | some xs => exact bor r j hv cv k t xs h
        | data =>
          refine Sim.ask fun h => ?_
          cases o with
          | none => have := of_decide_eq_true h; simp [lenI] at this; omega
          | some xs => exact dat t xs h
      | _ => exact Sim.fail
    · exact Sim.fail
  · rename_i h0
    simp only [h0, bindE_eq, bind_eq]
    split
    · rename_i hi
      simp only [hi]
      cases c with
      | ptr k off => exact Sim.sure fun h => by simp only [cE]; rw [need_bind (of_decide_eq_true h)]; exact Sim.ret rfl
      | l m t xs => cases m <;> exact Sim.fail
      | n m t o => cases m <;> cases o <;> exact Sim.fail
      | _ => exact Sim.fail
    · exact Sim.fail
  · exact Sim.fail
theorem indexE_sim (cfg : Cfg) (t : TypeId) (v : SVE) (n : Int) (s : ESt) : Sim s (indexE cfg t v n) cSV (indexP cfg t (cSV v) n) := by
  unfold indexE
  split
  · rename_i h
    simp only [indexP, cSV, cE, h, bindE_eq, bind_eq]
    refine Sim.ask fun h1 => Sim.ask fun h2 => ?_
    rw [need_bind (of_decide_eq_true h1)]
    rw [nlt_iff] at h2
    rw [getD_getElem _ _ 0 h2]
    exact Sim.ret rfl
  · rename_i h
    simp only [indexP, cSV, h, bindE_eq, bind_eq]
    split
    · rename_i hi
      simp only [hi]
      refine Sim.sure fun h1 => ?_
      rw [need_bind (of_decide_eq_true h1)]
      exact slice1E_sim _ _ _ s
    · exact Sim.fail
  · exact Sim.fail
theorem lenE_sim (b : Bool) (v : SVE) (s : ESt) : Sim s (lenE b v) cSV (lenP b (cSV v)) := by
  unfold lenE
  split
  · exact Sim.ret rfl
  · exact Sim.ret rfl
  · exact Sim.ret (by simp [dint, dintE, cSV, cE, lenI])
  · exact Sim.ret (by simp [dint, dintE, cSV, cE, lenI])
  · rename_i o
    cases o with
    | none => exact Sim.ret rfl
    | some xs => exact Sim.ret (by simp [dint, dintE, cSV, cE, lenI])
  · rename_i o
    cases o with
    | none => exact Sim.ret rfl
    | some xs => exact Sim.ret (by simp [dint, dintE, cSV, cE, lenI])
  · exact Sim.fail
/-! ## Building -/
theorem fillE_eq : ∀ (ps : List (Nat × List E)) (cells : List E), cEs (fillE cells ps) = fill (cEs cells) (ps.map fun p => (p.1, cEs p.2))
  | [], cells => rfl
  | (off, cs) :: r, cells => by simp only [fillE, List.map_cons, fill]; rw [fillE_eq r, cEs_splice]
theorem partsOfE_sim (fs : List (Nat × TypeId)) (cfg : Cfg) : ∀ (ps : List (Nat × Operand)) (s : ESt), Sim s (partsOfE fs cfg ps) (List.map fun p => (p.1, cEs p.2)) (partsOf fs cfg ps)
  | [], s => Sim.ret rfl
  | (i, o) :: r, s => by
    simp only [partsOfE, partsOf, bindE_eq, bind_eq]
    refine Sim.bind (evE_sim o s) fun v s1 => ?_
    rw [asCells_eq]
    cases fs[i]? with
    | none => exact Sim.fail
    | some p =>
      cases v.asCells with
      | none => exact Sim.fail
      | some cs =>
        obtain ⟨off, t⟩ := p
        simp only [Option.map_some]
        cases cfg.ti t with
        | none => exact Sim.fail
        | some ti =>
          simp only [cEs_length]
          refine Sim.sure fun h => ?_
          rw [need_bind (by simpa using h)]
          exact Sim.bind (partsOfE_sim fs cfg r s1) fun rest s2 => Sim.ret rfl
theorem ofD_eq {d : D} {c : E} (h : ofD d = some c) : cE c = .d d := by
  cases d with
  | bool b => cases h; cases b <;> rfl
  | sl => cases h
  | _ => cases h; rfl
theorem ofDs_eq : ∀ {ds : List D} {cs : List E}, ofDs ds = some cs → cEs cs = ds.map .d
  | [], cs, h => by cases h; rfl
  | d :: ds, cs, h => by
    unfold ofDs at h
    split at h
    · rename_i c cs' h1 h2
      cases h
      have := ofDs_eq h2
      simp only [cEs, List.map_cons] at this ⊢
      rw [ofD_eq h1, this]
    · cases h
theorem fits_eq {size : Nat} {ps : List (Nat × List E)} (h : fits size ps = true) : ∀ p ∈ (ps.map fun p => (p.1, cEs p.2)), p.1 + p.2.length ≤ size := by
  intro p hp
  obtain ⟨q, hq, rfl⟩ := List.mem_map.1 hp
  have := List.all_eq_true.1 h q hq
  simpa [Nat.ble_eq] using this
theorem buildE_sim (cfg : Cfg) (t : TypeId) (ps : List (Nat × Operand)) (s : ESt) : Sim s (buildE cfg t ps) cSV (buildP cfg t ps) := by
  unfold buildE buildP
  split
  · rename_i size bytes fs z h
    simp only [h, bindE_eq, bind_eq]
    refine Sim.sure fun h1 => ?_
    simp only [Bool.and_eq_true, beq_iff_eq, List.all_eq_true] at h1
    rw [need_bind h1]
    refine Sim.bind (partsOfE_sim fs cfg ps s) fun ps' s1 => Sim.sure fun h2 => ?_
    rw [need_bind (fits_eq h2)]
    cases hz : ofDs z with
    | none => exact Sim.fail
    | some cs => exact Sim.ret (by simp only [cSV, fillE_eq, ofDs_eq hz])
  · rename_i n et size bytes z h
    simp only [h, bindE_eq, bind_eq]
    split
    · rename_i hi
      simp only [hi]
      refine Sim.sure fun h1 => ?_
      simp only [beq_iff_eq] at h1
      rw [need_bind h1]
      refine Sim.bind (partsOfE_sim _ cfg ps s) fun ps' s1 => Sim.sure fun h2 => ?_
      rw [need_bind (fits_eq h2)]
      cases hz : ofDs z with
      | none => exact Sim.fail
      | some cs => exact Sim.ret (by simp only [cSV, fillE_eq, ofDs_eq hz])
    · exact Sim.fail
  · exact Sim.fail
theorem zeroOk_eq : ∀ (t : Ty) (z r : List D), zeroOk t z = some r → z = encR t t.zero ++ r
  | .int k, z, r, h => by
    unfold zeroOk at h
    split at h <;> first | (cases h; done) | skip
    all_goals (rename_i heq; cases heq)
    split at h
    · rename_i h1; obtain ⟨rfl, rfl⟩ := h1; cases h; rfl
    · cases h
  | .bool, z, r, h => by
    unfold zeroOk at h
    split at h <;> first | (cases h; done) | skip
    all_goals (rename_i heq; cases heq)
    split at h
    · rename_i h1; subst h1; cases h; rfl
    · cases h
  | .str, z, r, h => by
    unfold zeroOk at h
    split at h <;> first | (cases h; done) | skip
    all_goals (rename_i heq; cases heq)
    split at h
    · cases h; rfl
    · cases h
  | .sl t, z, r, h => by
    unfold zeroOk at h
    split at h <;> first | (cases h; done) | skip
    all_goals (rename_i heq; cases heq)
    cases h; rfl
  | .pair a b, z, r, h => by
    unfold zeroOk at h
    split at h
    · rename_i r1 h1
      have e1 := zeroOk_eq a _ _ h1
      have e2 := zeroOk_eq b _ _ h
      rw [e1, e2]
      simp [encR, Ty.zero]
    · cases h
theorem zeroIs_eq {t : Ty} {z : List D} (h : zeroIs t z = true) : z = encR t t.zero := by
  unfold zeroIs at h
  split at h
  · rename_i h1
    have := zeroOk_eq t _ _ h1
    simpa using this
  · cases h
theorem rowsOfE_sim (t : Ty) (size : Nat) : ∀ (ps : List (Nat × Operand)) (rows : List t.T) (s : ESt), Sim s (rowsOfE t size ps rows) (List.map (encR t)) (rowsOf size ps (rows.map (encR t)))
  | [], rows, s => Sim.ret rfl
  | (i, o) :: r, rows, s => by
    simp only [rowsOfE, rowsOf, bindE_eq, bind_eq]
    refine Sim.bind (evE_sim o s) fun v s1 => ?_
    rw [asCells_eq]
    cases v.asCells with
    | none => exact Sim.fail
    | some cs =>
      simp only [Option.map_some, cEs_length]
      refine Sim.sure fun h => ?_
      simp only [Bool.and_eq_true, beq_iff_eq, nlt_iff] at h
      rw [need_bind (by simpa using h)]
      refine Sim.bind (toDsE_sim cs s1) fun ds s2 => ?_
      cases hrow : rowT t ds with
      | none => exact Sim.fail
      | some x =>
        have := rowsOfE_sim t size r (lset rows i x) s2
        rw [lset_eq, List.map_set, ← row_unD hrow, ← lset_eq] at this
        exact this
theorem buildSliceE_sim (cfg : ECfg) (t : TypeId) (len : Nat) (ps : List (Nat × Operand)) (s : ESt) : Sim s (buildSliceE cfg t len ps) cSV (buildSliceP cfg.c t len ps) := by
  unfold buildSliceE buildSliceP
  split
  · rename_i et _ h0
    simp only [h0]
    cases cfg.c.ti et with
    | none => exact Sim.fail
    | some i =>
      cases lk et cfg.R with
      | none => exact Sim.fail
      | some ty =>
        simp only [bindE_eq, bind_eq]
        cases i.zero with
        | none => exact Sim.fail
        | some z =>
          simp only
          refine Sim.sure fun h => ?_
          simp only [Bool.and_eq_true, beq_iff_eq, nlt_iff, Nat.ble_eq] at h
          obtain ⟨⟨⟨⟨h1, h2⟩, h3⟩, h4⟩, h5⟩ := h
          rw [need_bind ⟨h1, h2, h3⟩]
          have e := zeroIs_eq h5
          have : List.replicate len z = (List.replicate len ty.zero).map (encR ty) := by rw [List.map_replicate, e]
          rw [this]
          exact Sim.bind (rowsOfE_sim ty i.size ps _ s) fun rows s1 => Sim.ret (by simp only [cSV, cE, lC, h4])
  · exact Sim.fail
theorem makeSliceE_sim (cfg : ECfg) (t : TypeId) (len cap : Int) (s : ESt) : Sim s (makeSliceE cfg t len cap) cSV (makeSliceP cfg.c t len cap) := by
  unfold makeSliceE makeSliceP
  split
  · rename_i et _ h0
    simp only [h0]
    cases cfg.c.ti et with
    | none => exact Sim.fail
    | some i =>
      cases lk et cfg.R with
      | none => exact Sim.fail
      | some ty =>
        simp only [bindE_eq, bind_eq]
        cases i.zero with
        | none => exact Sim.fail
        | some z =>
          simp only
          refine Sim.sure fun h => Sim.ask fun hh => ?_
          simp only [Bool.and_eq_true, beq_iff_eq, nlt_iff, Nat.ble_eq] at h
          obtain ⟨⟨⟨⟨h1, h2⟩, h3⟩, h4⟩, h5⟩ := h
          rw [need_bind ⟨h1, h2, h3⟩, need_bind (by simpa using of_decide_eq_true hh)]
          have e := zeroIs_eq h5
          exact Sim.ret (by simp only [cSV, cE, lC, h4, List.map_replicate, e])
  · exact Sim.fail
/-! ## Appending -/
theorem append1E_sim (i : TI) (t : Ty) (c : E) (ys : List t.T) (lit : Bool) (s : ESt) (hc : ∀ m t o, c ≠ .n m t o) : Sim s (append1E i t c ys lit) cSV (appendP i (cE c) (ys.map (encR t))) := by
  unfold append1E appendP
  simp only [bindE_eq, bind_eq]
  refine Sim.sure fun h => ?_
  simp only [Bool.and_eq_true, nlt_iff, Nat.ble_eq, beq_iff_eq] at h
  obtain ⟨⟨⟨⟨h1, h2⟩, h3⟩, h4⟩, h5⟩ := h
  rw [need_bind ⟨h1, h2, h3, by revert h4; cases i.zero <;> simp⟩]
  cases c with
  | nil =>
    simp only [cE]
    refine Sim.ask fun hl => ?_
    rw [need_bind (by simpa using of_decide_eq_true hl)]
    cases lit with
    | true =>
      cases ys with
      | nil => exact Sim.ret rfl
      | cons y r => exact Sim.ret (by simp only [cSV, cE, lC, h5])
    | false =>
      cases ys with
      | nil => exact Sim.ret rfl
      | cons y r => exact Sim.ret (by simp only [cSV, cE, optL, lC, h5])
  | n m t o => exact absurd rfl (hc m t o)
  | l m t' xs =>
    cases m with
    | own => exact Sim.fail
    | data => exact Sim.fail
    | bor r j hv cv k =>
      simp only [cE, lC]
      refine Sim.get ?_
      refine Sim.sure fun hs => ?_
      simp only [Bool.and_eq_true, beq_iff_eq, Bool.not_eq_true'] at hs
      obtain ⟨⟨g1, g2⟩, g3⟩ := hs
      have key : ∀ (zs : List (List D)) (zl : Nat), zs.length = zl → Sim s ((ask (decide (k + xs.length = zl))).bind fun _ => (ask (decide (xs.length + ys.length ≤ 68719476736))).bind fun _ => (takeAtE r j (s.get r)).bind fun _ => if h : t' = t then PE.ret (SVE.one (.l .own t ((h ▸ xs) ++ ys))) else .fail) cSV
          ((need ((cRV (s.get r)).hv = hv ∧ (cRV (s.get r)).cv = cv ∧ t'.w = i.size ∧ r.isArg = false)).bind fun _ => (need (k + (xs.map (encR t')).length = zs.length)).bind fun _ => (need ((xs.map (encR t')).length + (ys.map (encR t)).length ≤ 2 ^ 36)).bind fun _ => (takeAt r j (cRV (s.get r))).bind fun _ => Prog.ret (SV.one (.own t'.w (xs.map (encR t') ++ ys.map (encR t))))) := by
        intro zs zl hz
        by_cases ht : t' = t
        · subst ht
          refine Sim.ask fun a1 => Sim.ask fun a2 => ?_
          rw [need_bind ⟨g1, g2, h5.symm, g3⟩, need_bind (by rw [hz]; simpa using of_decide_eq_true a1), need_bind (by simpa using of_decide_eq_true a2)]
          refine Sim.bind (takeAt_sim r j s) fun _ s1 => ?_
          simp only [dite_true]
          exact Sim.ret (by simp only [cSV, cE, lC, List.map_append])
        · refine Sim.ask fun a1 => Sim.ask fun a2 => ?_
          simp only [ht, dite_false]
          unfold Sim
          rw [bothE_bind, Tr.box_bind]
          generalize (takeAtE r j (s.get r)).both s = tr
          induction tr with
          | leaf a => trivial
          | fail => trivial
          | br c t e iht ihe => exact ⟨fun _ => iht, fun _ => ihe⟩
          | call d o k ih => exact fun x _ => ih x
          | sum o k k' ih ih' => exact ⟨fun x _ => ih x, fun x _ => ih' x⟩
      rw [at_eq]
      cases ha : (s.get r).at j with
      | l m t2 zs =>
        cases m with
        | own => exact key (zs.map (encR t2)) _ (by simp)
        | _ => exact Sim.fail
      | n m t2 o =>
        cases m with
        | own => exact Sim.call fun zs hz => by subst hz; exact key (zs.map (encR t2)) _ (by simp)
        | _ => exact Sim.fail
      | _ => exact Sim.fail
  | _ => exact Sim.fail
theorem optL_cE (t : Ty) (w : Nat) (hw : w = t.w) (ys : List t.T) : (SV.one (cE (.n .own t (optL ys)))) = if ys.map (encR t) = [] then SV.one (.d .nil) else SV.one (.own w (ys.map (encR t))) := by
  subst hw
  cases ys with
  | nil => rfl
  | cons y r => simp only [optL, cE, lC, List.map_cons, reduceCtorEq, if_false]
theorem appendNE_sim (i : TI) (t : Ty) (r : Res) (j hv cv k : Nat) (t' : Ty) (o : Option (List t'.T)) (ys : List t.T) (lit : Bool) (s : ESt) : Sim s (appendNE i t r j hv cv k t' o ys lit) cSV (appendP i (cE (.n (.bor r j hv cv k) t' o)) (ys.map (encR t))) := by
  unfold appendNE appendP
  simp only [bindE_eq, bind_eq]
  refine Sim.sure fun h => ?_
  simp only [Bool.and_eq_true, nlt_iff, Nat.ble_eq, beq_iff_eq] at h
  obtain ⟨⟨⟨⟨h1, h2⟩, h3⟩, h4⟩, h5⟩ := h
  rw [need_bind ⟨h1, h2, h3, by revert h4; cases i.zero <;> simp⟩]
  cases o with
  | none =>
    simp only [cE]
    refine Sim.look ?_
    refine Sim.sure fun hs => ?_
    cases ha : (s.get r).at j with
    | n m' t2 o' =>
      cases m' with
      | own =>
        refine Sim.ask fun _ => Sim.ask fun a2 => ?_
        simp only [Option.getD_none, List.length_nil, Nat.zero_add, decide_eq_true_eq] at a2
        rw [need_bind (by simpa using a2)]
        refine Sim.bind (k' := fun _ => if ys.map (encR t) = [] then Prog.ret (SV.one (.d .nil)) else Prog.ret (SV.one (.own i.size (ys.map (encR t))))) (q := Prog.ret ()) (f := fun _ => ()) (takeN_none r j s) fun _ s1 => ?_
        split
        · rename_i ht
          subst ht
          have fin : Sim s1 (PE.ret (SVE.one (.n .own t' (appL none ys)))) cSV (if ys.map (encR t') = [] then Prog.ret (SV.one (.d .nil)) else Prog.ret (SV.one (.own i.size (ys.map (encR t'))))) := by
            have e := optL_cE t' i.size h5 ys
            have : (if ys.map (encR t') = [] then Prog.ret (SV.one (.d .nil)) else Prog.ret (SV.one (.own i.size (ys.map (encR t'))))) = Prog.ret (SV.one (cE (.n .own t' (optL ys)))) := by
              rw [e]; split <;> rfl
            rw [this]
            exact Sim.ret rfl
          cases lit with
          | false => exact fin
          | true =>
            cases ys with
            | nil => exact fin
            | cons y q =>
              simp only [List.map_cons, reduceCtorEq, if_false]
              exact Sim.ret (by simp only [cSV, cE, lC, h5, Option.getD_none, List.nil_append, List.map_cons])
        · exact Sim.fail
      | _ => exact Sim.fail
    | _ => exact Sim.fail
  | some xs =>
    simp only [cE, lC]
    refine Sim.get ?_
    refine Sim.sure fun hs => ?_
    simp only [Bool.and_eq_true, beq_iff_eq, Bool.not_eq_true'] at hs
    obtain ⟨⟨g1, g2⟩, g3⟩ := hs
    rw [at_eq]
    cases ha : (s.get r).at j with
    | n m' t2 o' =>
      cases m' with
      | own =>
        refine Sim.ask fun a1 => Sim.ask fun a2 => ?_
        simp only [Option.getD_some, decide_eq_true_eq] at a1 a2
        cases o' with
        | none =>
          unfold takeNE
          rw [ha]
          exact Sim.br (fun h => by cases h) fun _ => trivial
        | some zs =>
          simp only [cE, lC]
          by_cases ht : t' = t
          · subst ht
            rw [need_bind ⟨g1, g2, h5.symm, g3⟩, need_bind (by simpa using a1), need_bind (by simpa using a2)]
            refine Sim.bind (takeN_some r j s) fun _ s1 => ?_
            simp only [dite_true]
            cases lit with
            | false => exact Sim.ret (by simp only [cSV, cE, lC, appL, List.map_append])
            | true =>
              cases ys with
              | nil => exact Sim.ret (by simp only [cSV, cE, lC, appL, List.map_append])
              | cons y q => exact Sim.ret (by simp only [cSV, cE, lC, Option.getD_some, List.map_append])
          · unfold Sim
            rw [bothE_bind, Tr.box_bind]
            simp only [ht, dite_false]
            generalize (takeNE r j (s.get r) _).both s = tr
            induction tr with
            | leaf a => trivial
            | fail => trivial
            | br c t e iht ihe => exact ⟨fun _ => iht, fun _ => ihe⟩
            | call d o k ih => exact fun x _ => ih x
            | sum o k k' ih ih' => exact ⟨fun x _ => ih x, fun x _ => ih' x⟩
      | _ => exact Sim.fail
    | _ => exact Sim.fail
theorem appendE_sim (i : TI) (t : Ty) (c : E) (ys : List t.T) (lit : Bool) (s : ESt) : Sim s (appendE i t c ys lit) cSV (appendP i (cE c) (ys.map (encR t))) := by
  unfold appendE
  have gen : Sim s (do append1E i t (← resolve c) ys lit) cSV (appendP i (cE c) (ys.map (encR t))) := by
    simp only [bindE_eq]
    refine resolve_sim fun c' h1 h2 => ?_
    rw [← h1]
    exact append1E_sim i t c' ys lit s h2
  cases c with
  | n m t' o =>
    cases m with
    | bor r j hv cv k => exact appendNE_sim i t r j hv cv k t' o ys lit s
    | _ => exact gen
  | _ => exact gen
theorem capE_sim (c : E) (s : ESt) : Sim s (capE c) cSV (capP (cE c)) := by
  unfold capE
  cases c with
  | nil => exact Sim.ret rfl
  | n m t o =>
    simp only [bindE_eq]
    refine Sim.ask fun h => ?_
    cases o with
    | none => exact Sim.ret rfl
    | some xs => cases h
  | _ => exact Sim.fail
theorem makeNil_sim {i : TI} {t : Ty} {z : List D} {n : Int} {s : ESt} (hz : i.zero = some z) (h : (z.length == i.size && nlt 0 i.size && nlt 0 i.bytes && Nat.ble i.bytes 1024 && i.size == t.w && zeroIs t z) = true) (hn : 0 ≤ n ∧ n ≤ 68719476736) :
    Sim s (PE.ret (.one (.n .own t (optL (List.replicate n.toNat t.zero))))) cSV (appendMakeP i (.d .nil) n) := by
  simp only [Bool.and_eq_true, beq_iff_eq, nlt_iff, Nat.ble_eq] at h
  obtain ⟨⟨⟨⟨⟨h1, h2⟩, h3⟩, h4⟩, h5⟩, h6⟩ := h
  have e := zeroIs_eq h6
  unfold appendMakeP
  simp only [hz, bind_eq]
  rw [need_bind ⟨h1, h2, h3, h4⟩, need_bind (by simpa using hn)]
  have e2 := optL_cE t i.size h5 (List.replicate n.toNat t.zero)
  by_cases h0 : n.toNat = 0
  · rw [if_pos h0]
    refine Sim.ret ?_
    rw [h0]
    rfl
  · rw [if_neg h0]
    refine Sim.ret ?_
    show _ = SV.one (cE (.n .own t (optL (List.replicate n.toNat t.zero))))
    rw [e2, if_neg (by simp [h0]), e, List.map_replicate]
theorem appendMakeE_sim (i : TI) (t : Ty) (c : E) (n : Int) (s : ESt) : Sim s (appendMakeE i t c n) cSV (appendMakeP i (cE c) n) := by
  unfold appendMakeE
  split
  · rename_i z hz
    simp only [bindE_eq]
    refine Sim.sure fun h => ?_
    cases c with
    | nil =>
      simp only
      refine Sim.ask fun hn => ?_
      exact makeNil_sim hz h (of_decide_eq_true hn)
    | n m t o =>
      simp only
      refine Sim.ask fun hn => ?_
      rw [Bool.and_eq_true] at hn
      cases o with
      | none => exact makeNil_sim hz h (of_decide_eq_true hn.2)
      | some xs => exact absurd hn.1 (by simp)
    | _ => exact Sim.fail
  · exact Sim.fail
theorem addedE_sim (cfg : Cfg) (i : TI) (t : Ty) (tid : TypeId) (c : E) (s : ESt) : Sim s (addedE cfg i t tid c) (List.map (encR t)) (addedP cfg i tid (cE c)) := by
  unfold addedE
  split
  · rename_i h
    split
    · split
      · rename_i ht
        subst ht
        simp only [addedP, cE, h, bindE_eq, bind_eq]
        refine Sim.sure fun hs => ?_
        rw [need_bind (by simpa using hs)]
        exact Sim.ret (by simp [encR, bytesI, byteI])
      · exact Sim.fail
    · exact Sim.fail
  · rename_i h
    have e : addedP cfg i tid (cE c) = elems i.size (cE c) := by
      unfold addedP
      rw [h]
    rw [e]
    simp only [bindE_eq]
    refine Sim.sure fun hs => ?_
    simp only [beq_iff_eq] at hs
    rw [hs]
    exact elemsE_sim t c s
  · exact Sim.fail
/-! ## Parts -/
theorem subStrE_sim (v : SVE) (lo hi : Option Int) (s : ESt) : Sim s (subStrE v lo hi) cSV (subStr (cSV v) lo hi) := by
  unfold subStrE
  split
  · simp only [subStr, cSV, cE, bindE_eq, bind_eq]
    refine Sim.ask fun h => ?_
    rw [need_bind (by simpa [lenI] using of_decide_eq_true h)]
    exact Sim.ret rfl
  · exact Sim.fail
theorem subL_map {α β : Type} (f : α → β) (l h : Int) (xs : List α) : (subL l h xs).map f = ((xs.map f).take h.toNat).drop l.toNat := by simp [subL, List.map_take, List.map_drop]
theorem subL_nil {α : Type} (l h : Int) : subL l h ([] : List α) = [] := by simp [subL]
theorem subSlE_sim (size : Nat) (v : SVE) (lo hi : Option Int) (s : ESt) : Sim s (subSlE size v lo hi) cSV (subSl size (cSV v) lo hi) := by
  unfold subSlE
  split
  · simp only [subSl, cSV, cE, bindE_eq, bind_eq]
    refine Sim.ask fun h => ?_
    rw [need_bind (of_decide_eq_true h)]
    exact Sim.ret rfl
  · rename_i t xs
    simp only [subSl, cSV, cE, lC, bindE_eq, bind_eq]
    refine Sim.ask fun h => Sim.sure fun h2 => ?_
    rw [need_bind (by simpa [lenI] using of_decide_eq_true h), need_bind (by simpa using h2)]
    exact Sim.ret (by simp only [cSV, cE, lC, subL_map, List.length_map, lenI])
  · rename_i t o
    simp only [bindE_eq]
    refine Sim.ask fun h => Sim.sure fun h2 => ?_
    have hh := of_decide_eq_true h
    cases o with
    | none =>
      simp only [subSl, cSV, cE, bind_eq]
      simp only [lenI, Option.getD_none, List.length_nil, Int.natCast_zero] at hh
      rw [need_bind (by constructor; · omega
                        · cases hi with
                          | none => rfl
                          | some x => simp only [Option.getD_some] at hh ⊢; omega)]
      exact Sim.ret rfl
    | some xs =>
      simp only [subSl, cSV, cE, lC, bind_eq]
      rw [need_bind (by simpa [lenI] using hh), need_bind (by simpa using h2)]
      exact Sim.ret (by simp only [cSV, cE, lC, subL_map, List.length_map, Option.map_some, Option.getD_some, lenI])
  · rename_i r j hv cv k t xs
    simp only [subSl, cSV, cE, lC, bindE_eq, bind_eq]
    refine Sim.ask fun h => Sim.sure fun h2 => ?_
    rw [need_bind (by simpa [lenI] using of_decide_eq_true h), need_bind (by simpa using h2)]
    exact Sim.ret (by simp only [cSV, cE, lC, subL_map, List.length_map, lenI])
  · rename_i r j hv cv k t o
    simp only [bindE_eq]
    refine Sim.ask fun h => Sim.sure fun h2 => ?_
    have hh := of_decide_eq_true h
    cases o with
    | none =>
      simp only [subSl, cSV, cE, bind_eq]
      simp only [lenI, Option.getD_none, List.length_nil, Int.natCast_zero] at hh
      rw [need_bind (by constructor; · omega
                        · cases hi with
                          | none => rfl
                          | some x => simp only [Option.getD_some] at hh ⊢; omega)]
      exact Sim.ret rfl
    | some xs =>
      simp only [subSl, cSV, cE, lC, bind_eq]
      rw [need_bind (by simpa [lenI] using hh), need_bind (by simpa using h2)]
      exact Sim.ret (by simp only [cSV, cE, lC, subL_map, List.length_map, Option.map_some, Option.getD_some, lenI])
  · exact Sim.fail
theorem isBytes_eq {cfg : Cfg} {et : TypeId} (h : isBytes cfg et = true) : ∃ b z, cfg.ti et = some ⟨1, b, .int .u8, z⟩ := by
  unfold isBytes at h
  split at h
  · rename_i b z hh; exact ⟨b, z, hh⟩
  · cases h
theorem convertE_sim (cfg : Cfg) (src dst : TypeId) (v : SVE) (s : ESt) : Sim s (convertE cfg src dst v) cSV (convertP cfg src dst (cSV v)) := by
  unfold convertE
  split
  · rename_i h1 h2
    split
    · simp only [convertP, h1, h2, cSV, cE]
      exact Sim.ret rfl
    · exact Sim.fail
  · rename_i i _ _ _ h1 h2
    split
    · simp only [convertP, h1, h2, cSV, cE]
      exact Sim.ret rfl
    · rename_i c hc
      split
      · rename_i et hk
        split
        · rename_i hb
          obtain ⟨b, z, hh⟩ := isBytes_eq hb
          have e : convertP cfg src dst (cSV (.one c)) = (elems 1 (cE c)).bind fun xs => match xs.mapM (fun x => match x with | [.int .u8 n] => some (UInt8.ofNat n.toNat) | _ => none) with
              | some l => Prog.ret (SV.one (.d (.str l)))
              | none => .fail := by
            obtain ⟨isz, iby, ik, iz⟩ := i
            simp only at hk
            subst hk
            simp only [convertP, h1, h2, cSV, bind_eq]
            cases c with
            | l m t xs => cases m <;> (simp only [cE, lC, hh]; rfl)
            | n m t o => cases m <;> cases o <;> (simp only [cE, lC, hh]; rfl)
            | s x => exact absurd rfl (hc x)
            | gone b => cases b <;> (simp only [cE, hh]; rfl)
            | _ => simp only [cE, hh]; rfl
          rw [e]
          simp only [bindE_eq]
          refine Sim.bind (elemsE_sim (.int .u8) c s) fun xs s1 => ?_
          have : ∀ l : List Int, (l.map (encR (.int .u8))).mapM (fun x => match x with | [.int .u8 n] => some (UInt8.ofNat n.toNat) | _ => none) = some (l.map fun n => UInt8.ofNat n.toNat) := by
            intro l
            induction l with
            | nil => rfl
            | cons n l ih => rw [List.map_cons, List.mapM_cons, ih]; rfl
          rw [this xs]
          exact Sim.ret rfl
        · exact Sim.fail
      · exact Sim.fail
    · exact Sim.fail
  · rename_i h1 h2
    split
    · split
      · rename_i hb
        obtain ⟨b, z, hh⟩ := isBytes_eq hb
        simp only [convertP, h1, h2, cSV, cE, hh]
        exact Sim.ret (by simp [cSV, cE, lC, encR, Ty.w, bytesI, byteI])
      · exact Sim.fail
    · exact Sim.fail
  · exact Sim.fail
end Go.Ve
/- The typed evaluator keeps step: calls and regions. -/
namespace Go.Ve
open Go.Vs
theorem keysOf_eq : ∀ (cs : List E), keysOf (cEs cs) = keysOfE cs
  | [] => rfl
  | c :: cs => by
    have ih := keysOf_eq cs
    cases c with
    | ptr k off => simp only [cEs, List.map_cons, cE, keysOf, keysOfE] at ih ⊢; rw [ih]
    | clo f caps => simp only [cEs, List.map_cons, cE, keysOf, keysOfE] at ih ⊢; rw [ih]
    | l m t xs => cases m <;> exact ih
    | n m t o => cases m <;> cases o <;> exact ih
    | gone b => cases b <;> exact ih
    | _ => exact ih
theorem flat_eq : ∀ (vs : List SVE), (vs.map cSV).flatMap SV.cells = cEs (vs.flatMap SVE.cells)
  | [] => rfl
  | v :: vs => by simp only [List.map_cons, List.flatMap_cons, flat_eq vs, cells_eq, cEs_append]
/-- what is seen as data, kept as data -/
theorem data_sim {p : PE E} {q : Prog D} {s : ESt} (hp : Sim s p unDE q) (hx : (p.both s).box (fun x => isData x.1 = true)) : Sim s p cE (q.bind fun d => Prog.ret (C.d d)) := by
  unfold Sim at hp ⊢
  refine Tr.box_mono ?_ (Tr.box_and hp hx)
  rintro ⟨c, s', f, g⟩ ⟨⟨fr, fw, h1, i1, i2⟩, h2⟩
  simp only at h1 h2 i1 i2 ⊢
  refine ⟨fr, fw, ?_, i1, i2⟩
  rw [bothP_bind, h1]
  obtain ⟨d, e⟩ := isData_some h2
  simp only [Prog.both, unDE, e, unD, List.append_nil]
theorem toDE_data (c : E) (s : ESt) : ((toDE c).both s).box (fun x => isData x.1 = true) := by
  have one : ∀ (c : E), ((toD1E c).both s).box (fun x => isData x.1 = true) := by
    intro c
    have lst : ∀ {α : Type} (p : PE α) (d : E), isData d = true → ((p.bind fun _ => PE.ret d).both s).box (fun x => isData x.1 = true) := by
      intro α p d hd
      rw [bothE_bind, Tr.box_bind]
      generalize p.both s = tr
      induction tr with
      | leaf a => exact hd
      | fail => trivial
      | br c t e iht ihe => exact ⟨fun _ => iht, fun _ => ihe⟩
      | call d o k ih => exact fun x _ => ih x
      | sum o k k' ih ih' => exact ⟨fun x _ => ih x, fun x _ => ih' x⟩
    have dat : ∀ {c : E}, isData c = true → toD1E c = PE.ret c → ((toD1E c).both s).box (fun x => isData x.1 = true) := by
      intro c hd he
      rw [he]; exact hd
    cases c with
    | l m t xs =>
      cases m with
      | bor r j hv cv k =>
        simp only [toD1E, PE.both, bindE_eq]
        rw [Tr.box_map]
        cases hcur : (s.get r).hv == hv && (s.get r).cv == cv with
        | false => trivial
        | true => exact lst _ _ rfl
      | data => exact dat rfl rfl
      | own => trivial
    | n m t o =>
      cases m with
      | bor r j hv cv k =>
        simp only [toD1E, PE.both, bindE_eq]
        rw [Tr.box_map]
        cases hcur : (s.get r).hv == hv && (s.get r).cv == cv with
        | false => trivial
        | true => exact lst _ _ rfl
      | data => exact dat rfl rfl
      | own => trivial
    | i => exact dat rfl rfl
    | b => exact dat rfl rfl
    | tt => exact dat rfl rfl
    | ff => exact dat rfl rfl
    | s => exact dat rfl rfl
    | nil => exact dat rfl rfl
    | nul => exact dat rfl rfl
    | _ => trivial
  unfold toDE
  rw [bindE_eq, bothE_bind, Tr.box_bind]
  have same : ∀ c', ((PE.ret c').both s).box fun a => (((toD1E a.1).both a.2.1).map fun y => (y.1, y.2.1, a.2.2.1 ++ y.2.2.1, a.2.2.2 ++ y.2.2.2)).box (fun x => isData x.1 = true) := by
    intro c'
    show (((toD1E c').both s).map _).box _
    rw [Tr.box_map]
    exact one c'
  cases c with
  | n m t o =>
    cases m with
    | bor r j hv cv k =>
      cases r with
      | arg i => exact ⟨fun _ => same _, fun _ => same _⟩
      | _ => exact same _
    | _ => exact same _
  | _ => exact same _
theorem prepE_sim (cfg : Cfg) (c : E) (s : ESt) : Sim s (prepE cfg c) cE (prepC cfg (cE c)) := by
  unfold prepE
  cases c with
  | l m t xs =>
    cases m with
    | bor r j hv cv k =>
      cases r with
      | tmp u =>
        simp only [prep1E, prepC, cE, lC, bind_eq]
        cases hu : cfg.keep u with
        | true => simp only [if_true]; exact Sim.ret rfl
        | false =>
          simp only [Bool.false_eq_true, if_false]
          exact data_sim (toDE_sim (.l (.bor (.tmp u) j hv cv k) t xs) s) (toDE_data _ s)
      | _ => exact Sim.ret rfl
    | _ => exact Sim.ret rfl
  | n m t o =>
    cases m with
    | bor r j hv cv k =>
      cases r with
      | tmp u =>
        simp only [prep1E]
        cases hu : cfg.keep u with
        | true =>
          cases o with
          | none => exact Sim.ret rfl
          | some xs => simp only [prepC, cE, lC, hu, if_true]; exact Sim.ret rfl
        | false =>
          have h := data_sim (toDE_sim (.n (.bor (.tmp u) j hv cv k) t o) s) (toDE_data _ s)
          cases o with
          | none => exact h
          | some xs =>
            simp only [prepC, cE, lC, hu, Bool.false_eq_true, if_false, bind_eq]
            exact h
      | _ => cases o <;> exact Sim.ret rfl
    | _ => cases o <;> exact Sim.ret rfl
  | gone b => cases b <;> exact Sim.ret rfl
  | _ => exact Sim.ret rfl
theorem prepCsE_sim (cfg : Cfg) : ∀ (cs : List E) (s : ESt), Sim s (prepCsE cfg cs) cEs (prepCs cfg (cEs cs))
  | [], s => Sim.ret rfl
  | c :: cs, s => by
    show Sim s (prepCsE cfg (c :: cs)) cEs (prepCs cfg (cE c :: cEs cs))
    simp only [prepCsE, prepCs, bindE_eq, bind_eq]
    exact Sim.bind (prepE_sim cfg c s) fun c' s1 => Sim.bind (prepCsE_sim cfg cs s1) fun cs' s2 => Sim.ret rfl
theorem prepSVE_sim (cfg : Cfg) (v : SVE) (s : ESt) : Sim s (prepSVE cfg v) cSV (prepSV cfg (cSV v)) := by
  cases v with
  | one c =>
    show Sim s (prepSVE cfg (.one c)) cSV (prepSV cfg (.one (cE c)))
    simp only [prepSVE, prepSV, bindE_eq, bind_eq]
    exact Sim.bind (prepE_sim cfg c s) fun c' s1 => Sim.ret rfl
  | agg cs =>
    show Sim s (prepSVE cfg (.agg cs)) cSV (prepSV cfg (.agg (cEs cs)))
    simp only [prepSVE, prepSV, bindE_eq, bind_eq]
    exact Sim.bind (prepCsE_sim cfg cs s) fun c' s1 => Sim.ret rfl
  | _ => exact Sim.fail
theorem prepSVsE_sim (cfg : Cfg) : ∀ (vs : List SVE) (s : ESt), Sim s (prepSVsE cfg vs) (List.map cSV) (prepSVs cfg (vs.map cSV))
  | [], s => Sim.ret rfl
  | v :: vs, s => by
    simp only [List.map_cons, prepSVsE, prepSVs, bindE_eq, bind_eq]
    exact Sim.bind (prepSVE_sim cfg v s) fun c' s1 => Sim.bind (prepSVsE_sim cfg vs s1) fun cs' s2 => Sim.ret rfl
theorem canonE_sim (ks : List Key) (c : E) (s : ESt) : Sim s (canonE ks c) cE (canon ks (cE c)) := by
  cases c with
  | l m t xs =>
    cases m with
    | own => exact Sim.fail
    | data => exact Sim.ret rfl
    | bor r j hv cv k =>
      simp only [canonE, canon, cE, lC]
      refine Sim.get ?_
      simp only [bindE_eq, bind_eq]
      refine Sim.sure fun hs => ?_
      simp only [Bool.and_eq_true, beq_iff_eq] at hs
      rw [need_bind (p := (cRV (s.get r)).hv = hv ∧ (cRV (s.get r)).cv = cv) hs]
      rw [at_eq]
      have own : ∀ (b : Bool), b = ks.all (fun k => !reqb r (.box k)) → Sim s ((sure b).bind fun _ => PE.ret (E.l .own t xs)) cE ((need (∀ k ∈ ks, r ≠ .box k)).bind fun _ => Prog.ret (C.own t.w (xs.map (encR t)))) := by
        intro b hb
        refine Sim.sure fun h => ?_
        rw [need_bind (by
          intro k hk he
          rw [hb] at h
          have := List.all_eq_true.1 h k hk
          rw [(reqb_iff r (.box k)).2 he] at this
          cases this)]
        exact Sim.ret rfl
      cases ha : (s.get r).at j with
      | l m' t' ys =>
        cases m' with
        | own => exact own _ rfl
        | data => exact Sim.ret rfl
        | bor => exact Sim.fail
      | n m' t' o =>
        cases m' with
        | own => exact Sim.call fun x hx => by subst hx; exact own _ rfl
        | data => exact Sim.call fun x hx => by subst hx; exact Sim.ret rfl
        | bor => exact Sim.fail
      | _ => exact Sim.fail
  | n m t o =>
    cases m with
    | bor r j hv cv k =>
      cases o with
      | none =>
        simp only [canonE]
        refine Sim.look ?_
        simp only [bindE_eq]
        refine Sim.sure fun hs => ?_
        cases ha : (s.get r).at j with
        | n m' t' o' =>
          cases m' with
          | own => exact aliveN_sim fun _ => Sim.sure fun _ => Sim.ret rfl
          | data => exact aliveN_sim fun _ => Sim.ret rfl
          | bor => exact Sim.fail
        | _ => exact Sim.fail
      | some xs =>
        simp only [canonE, canon, cE, lC]
        refine Sim.get ?_
        simp only [bindE_eq, bind_eq]
        refine Sim.sure fun hs => ?_
        simp only [Bool.and_eq_true, beq_iff_eq] at hs
        rw [need_bind (p := (cRV (s.get r)).hv = hv ∧ (cRV (s.get r)).cv = cv) hs]
        rw [at_eq]
        cases ha : (s.get r).at j with
        | n m' t' o' =>
          cases m' with
          | own =>
            refine aliveN_sim fun ⟨t2, o2, h1, h2⟩ => ?_
            rw [ha] at h1
            cases o' with
            | none => (rcases h1 with h1 | h1 <;> cases h1); cases h2
            | some ys =>
              refine Sim.sure fun h => ?_
              simp only [cE, lC]
              rw [need_bind (by
                intro k hk he
                have := List.all_eq_true.1 h k hk
                rw [(reqb_iff r (.box k)).2 he] at this
                cases this)]
              exact Sim.ret rfl
          | data =>
            refine aliveN_sim fun ⟨t2, o2, h1, h2⟩ => ?_
            rw [ha] at h1
            cases o' with
            | none => (rcases h1 with h1 | h1 <;> cases h1); cases h2
            | some ys => exact Sim.ret rfl
          | bor => exact Sim.fail
        | _ => exact Sim.fail
    | own => exact Sim.fail
    | data => cases o <;> exact Sim.ret rfl
  | gone b => exact Sim.fail
  | ea => exact Sim.fail
  | da => exact Sim.fail
  | dead => exact Sim.fail
  | _ => exact Sim.ret rfl
theorem canonsE_sim (ks : List Key) : ∀ (cs : List E) (s : ESt), Sim s (canonsE ks cs) cEs (canons ks (cEs cs))
  | [], s => Sim.ret rfl
  | c :: cs, s => by
    show Sim s (canonsE ks (c :: cs)) cEs (canons ks (cE c :: cEs cs))
    simp only [canonsE, canons, bindE_eq, bind_eq]
    exact Sim.bind (canonE_sim ks c s) fun c' s1 => Sim.bind (canonsE_sim ks cs s1) fun cs' s2 => Sim.ret rfl
theorem canonSVE_sim (ks : List Key) (v : SVE) (s : ESt) : Sim s (canonSVE ks v) cSV (canonSV ks (cSV v)) := by
  cases v with
  | one c =>
    show Sim s (canonSVE ks (.one c)) cSV (canonSV ks (.one (cE c)))
    simp only [canonSVE, canonSV, bindE_eq, bind_eq]
    exact Sim.bind (canonE_sim ks c s) fun c' s1 => Sim.ret rfl
  | agg cs =>
    show Sim s (canonSVE ks (.agg cs)) cSV (canonSV ks (.agg (cEs cs)))
    simp only [canonSVE, canonSV, bindE_eq, bind_eq]
    exact Sim.bind (canonsE_sim ks cs s) fun c' s1 => Sim.ret rfl
  | _ => exact Sim.fail
theorem canonSVsE_sim (ks : List Key) : ∀ (vs : List SVE) (s : ESt), Sim s (canonSVsE ks vs) (List.map cSV) (canonSVs ks (vs.map cSV))
  | [], s => Sim.ret rfl
  | v :: vs, s => by
    simp only [List.map_cons, canonSVsE, canonSVs, bindE_eq, bind_eq]
    exact Sim.bind (canonSVE_sim ks v s) fun c' s1 => Sim.bind (canonSVsE_sim ks vs s1) fun cs' s2 => Sim.ret rfl
theorem plain_eq {c : E} (h : plainE c = true) : plain (cE c) = true := by
  cases c with
  | l m t xs => cases m <;> first | rfl | cases h
  | n m t o => cases m <;> cases o <;> first | rfl | cases h
  | _ => first | rfl | cases h
theorem plains_eq {cs : List E} (h : cs.all plainE = true) : (cEs cs).all plain = true := by
  simp only [cEs, List.all_map, List.all_eq_true, Function.comp_apply] at h ⊢
  exact fun c hc => plain_eq (h c hc)
theorem tok_eq {ks : List Key} {c : E} (h : tokE ks c = true) : tok ks (cE c) = true := by
  cases c with
  | ptr k off =>
    simp only [tokE, List.any_eq_true] at h
    obtain ⟨q, hq, e⟩ := h
    rw [keqb_iff] at e
    subst e
    simpa [tok, cE] using hq
  | l m t xs => cases m <;> first | rfl | cases h
  | n m t o => cases m <;> cases o <;> first | rfl | cases h
  | _ => first | rfl | cases h
theorem toks_eq {ks : List Key} {cs : List E} (h : cs.all (tokE ks) = true) : (cEs cs).all (tok ks) = true := by
  simp only [cEs, List.all_map, List.all_eq_true, Function.comp_apply] at h ⊢
  exact fun c hc => tok_eq (h c hc)
theorem cE_tc {ks : List Key} {c : E} (h : tokE ks c = true) : cE (tcE ks c) = tc ks (cE c) := by
  cases c with
  | ptr k off => rfl
  | l m t xs => cases m <;> first | rfl | cases h
  | n m t o => cases m <;> cases o <;> first | rfl | cases h
  | _ => first | rfl | cases h
theorem cEs_tc {ks : List Key} : ∀ {cs : List E}, cs.all (tokE ks) = true → cEs (cs.map (tcE ks)) = (cEs cs).map (tc ks)
  | [], _ => rfl
  | c :: cs, h => by
    rw [List.all_cons, Bool.and_eq_true] at h
    show cE (tcE ks c) :: cEs (cs.map (tcE ks)) = tc ks (cE c) :: (cEs cs).map (tc ks)
    rw [cE_tc h.1, cEs_tc h.2]
/-- there and back -/
theorem bc_tc {ks : List Key} {c : E} (h : tokE ks c = true) : bc ks (cE (tcE ks c)) = cE c := by
  cases c with
  | ptr k off =>
    have hk : k ∈ ks := by
      simp only [tokE, List.any_eq_true] at h
      obtain ⟨q, hq, e⟩ := h
      rw [keqb_iff] at e
      subst e
      exact hq
    obtain ⟨h1, h2⟩ := idx_lt hk
    show C.ptr (ks.getD (idx k ks) default) off = C.ptr k off
    rw [List.getD_eq_getElem?_getD, h2]
    rfl
  | l m t xs => cases m <;> first | rfl | cases h
  | n m t o => cases m <;> cases o <;> first | rfl | cases h
  | _ => first | rfl | cases h
theorem bok_tcE {ks : List Key} {c : E} (h : tokE ks c = true) : bok ks.length (cE (tcE ks c)) = true := by
  rw [cE_tc h]; exact bok_tc (tok_eq h)
theorem plain_bok1 {n : Nat} {c : C} (h : plain c = true) : bok n c = true := by cases c <;> first | rfl | cases h
theorem over_back {ks : List Key} : ∀ {cs : List E} {o : List (Option E)}, cs.all (tokE ks) = true → o.all plainO = true →
    (cEs (overE (cs.map (tcE ks)) o)).map (bc ks) = cEs (overE cs o) ∧ (cEs (overE (cs.map (tcE ks)) o)).all (bok ks.length) = true
  | [], _, _, _ => ⟨rfl, rfl⟩
  | c :: cs, [], h, _ => by
    have hh : ∀ {l : List E}, l.all (tokE ks) = true → (cEs (l.map (tcE ks))).map (bc ks) = cEs l ∧ (cEs (l.map (tcE ks))).all (bok ks.length) = true := by
      intro l
      induction l with
      | nil => intro _; exact ⟨rfl, rfl⟩
      | cons a l ih =>
        intro h
        rw [List.all_cons, Bool.and_eq_true] at h
        obtain ⟨i1, i2⟩ := ih h.2
        refine ⟨?_, ?_⟩
        · show bc ks (cE (tcE ks a)) :: (cEs (l.map (tcE ks))).map (bc ks) = cE a :: cEs l
          rw [bc_tc h.1, i1]
        · show (bok ks.length (cE (tcE ks a)) && (cEs (l.map (tcE ks))).all (bok ks.length)) = true
          rw [bok_tcE h.1, i2]; rfl
    exact hh h
  | c :: cs, x :: o, h, g => by
    rw [List.all_cons, Bool.and_eq_true] at h g
    obtain ⟨i1, i2⟩ := over_back h.2 g.2
    cases x with
    | none =>
      refine ⟨?_, ?_⟩
      · show bc ks (cE (tcE ks c)) :: (cEs (overE (cs.map (tcE ks)) o)).map (bc ks) = cE c :: cEs (overE cs o)
        rw [bc_tc h.1, i1]
      · show (bok ks.length (cE (tcE ks c)) && (cEs (overE (cs.map (tcE ks)) o)).all (bok ks.length)) = true
        rw [bok_tcE h.1, i2]; rfl
    | some y =>
      have hy : plain (cE y) = true := plain_eq g.1
      refine ⟨?_, ?_⟩
      · show bc ks (cE y) :: (cEs (overE (cs.map (tcE ks)) o)).map (bc ks) = cE y :: cEs (overE cs o)
        rw [bc_plain1 hy, i1]
      · show (bok ks.length (cE y) && (cEs (overE (cs.map (tcE ks)) o)).all (bok ks.length)) = true
        rw [plain_bok1 hy, i2]; rfl
theorem getBoxesE_sim (kk : List Key) : ∀ (ks : List Key) (s : ESt), Sim s (getBoxesE kk ks) (List.map cEs) (getBoxes kk ks)
  | [], s => Sim.ret rfl
  | k :: ks, s => by
    simp only [getBoxesE, getBoxes, bindE_eq, bind_eq]
    refine Sim.get ?_
    cases hv : (s.get (.box k)).v with
    | agg cs =>
      simp only [cRV, hv, cSV]
      refine Sim.sure fun h => ?_
      rw [need_bind (toks_eq h)]
      exact Sim.bind (getBoxesE_sim kk ks s) fun r s1 => Sim.ret (by rw [List.map_cons, cEs_tc h])
    | _ => simp only [cRV, hv, cSV]; exact Sim.fail
theorem keysOf_cEs (cs : List E) : keysOf (cEs cs) = keysOfE cs := by
  induction cs with
  | nil => rfl
  | cons c cs ih =>
    cases c with
    | l m t xs => cases m <;> exact ih
    | n m t o => cases m <;> cases o <;> exact ih
    | ptr k off => exact congrArg (k :: ·) ih
    | clo f caps => exact congrArg (caps.map (·.1) ++ ·) ih
    | gone b => cases b <;> exact ih
    | _ => exact ih
theorem boxKeysE_sim : ∀ (ks : List Key) (s : ESt), Sim s (boxKeysE ks) (fun l => l) (boxKeys ks)
  | [], s => Sim.ret rfl
  | k :: ks, s => by
    simp only [boxKeysE, boxKeys, bindE_eq, bind_eq]
    refine Sim.get ?_
    cases hv : (s.get (.box k)).v with
    | agg cs =>
      simp only [cRV, hv, cSV]
      exact Sim.bind (boxKeysE_sim ks s) fun r s1 => Sim.ret (by rw [keysOf_cEs])
    | _ => simp only [cRV, hv, cSV]; exact Sim.fail
theorem putE_bind {α : Type} (r : Res) (x : RVE) (k : Unit → PE α) : (putE r x).bind k = .put r x (k ()) := rfl
theorem putR_bind {α : Type} (r : Res) (x : RV) (k : Unit → Prog α) : (putR r x).bind k = .put r x (k ()) := rfl
/-- the state holds these boxes -/
def Holds (kk : List Key) (s : ESt) : List Key → List (List E) → Prop
  | [], [] => True
  | k :: ks, b :: bs => (∃ o, (s.get (.box k)).v = .agg o ∧ o.all (tokE kk) = true ∧ b = o.map (tcE kk)) ∧ Holds kk s ks bs
  | _, _ => False
theorem Holds.other {kk : List Key} {s : ESt} {k : Key} {os : List (Option E)} {cs : List E} (h : (s.get (.box k)).v = .agg cs) : ∀ {ks : List Key} {bs : List (List E)}, k ∉ ks → Holds kk s ks bs → Holds kk (s.wr k os) ks bs
  | [], [], _, hh => hh
  | [], _ :: _, _, hh => hh.elim
  | _ :: _, [], _, hh => hh.elim
  | q :: ks, b :: bs, hk, hh => by
    simp only [List.mem_cons, not_or] at hk
    refine ⟨?_, Holds.other h hk.2 hh.2⟩
    rw [get_wr s k os _ h, if_neg (by simpa using Ne.symm hk.1)]
    exact hh.1
theorem getBoxesE_holds (kk : List Key) : ∀ (ks : List Key) (s : ESt), ((getBoxesE kk ks).both s).box fun x => x.2.1 = s ∧ Holds kk s ks x.1
  | [], s => ⟨rfl, trivial⟩
  | k :: ks, s => by
    simp only [getBoxesE, PE.both, Tr.box_map, bindE_eq]
    cases hv : (s.get (.box k)).v with
    | agg cs =>
      cases hp : cs.all (tokE kk) with
      | false => simp only [hp]; exact trivial
      | true =>
        simp only [hp]
        show (((getBoxesE kk ks).bind fun r => PE.ret (cs.map (tcE kk) :: r)).both s).box _
        rw [bothE_bind, Tr.box_bind]
        refine Tr.box_mono ?_ (getBoxesE_holds kk ks s)
        rintro ⟨a, s', f, g⟩ ⟨h1, h2⟩
        simp only at h1 h2
        subst h1
        exact ⟨rfl, ⟨cs, hv, hp, rfl⟩, h2⟩
    | _ => exact trivial
theorem plainE_notPtr {e : E} (h : plainE e = true) {k : Key} {off : Nat} : cE e ≠ .ptr k off := by
  cases e with
  | l m t xs => cases m <;> simp [cE, lC]
  | n m t o => cases o <;> cases m <;> simp [cE, lC]
  | ptr => cases h
  | gone b => cases b <;> simp [cE]
  | _ => simp [cE]
theorem cE_ptr {c : E} {k : Key} {off : Nat} (h : cE c = .ptr k off) : c = .ptr k off := by
  cases c with
  | l m t xs => cases m <;> simp [cE, lC] at h
  | n m t o => cases o <;> cases m <;> simp [cE, lC] at h
  | ptr => simp [cE] at h; obtain ⟨rfl, rfl⟩ := h; rfl
  | gone b => cases b <;> simp [cE] at h
  | _ => simp [cE] at h
theorem keepPtr_same {cs : List E} {o : List (Option E)} (h : o.all plainO = true) : samePtr (.agg (cEs cs)) (cEs (overE cs o)) = keepPtr cs o := by
  cases hk : keepPtr cs o with
  | true =>
    unfold keepPtr at hk
    split at hk
    · simp [overE, cEs, cE, samePtr]
    · simp [overE, cEs, cE, samePtr]
    · cases hk
  | false =>
    cases hs : samePtr (.agg (cEs cs)) (cEs (overE cs o)) with
    | false => rfl
    | true =>
      obtain ⟨k, off, h1, h2⟩ := samePtr_iff hs
      simp only [SV.agg.injEq, cEs] at h1
      cases cs with
      | nil => cases h1
      | cons c cs =>
        simp only [List.map_cons, List.cons.injEq, List.map_eq_nil_iff] at h1
        obtain ⟨h3, rfl⟩ := h1
        obtain rfl := cE_ptr h3
        cases o with
        | nil => cases hk
        | cons x o =>
          cases x with
          | none => cases hk
          | some e =>
            rw [List.all_cons, Bool.and_eq_true] at h
            simp only [overE, cEs, List.map_cons, List.cons.injEq] at h2
            exact absurd h2.1 (plainE_notPtr h.1)
theorem putBoxesE_sim (kk : List Key) : ∀ (ks : List Key) (bs : List (List E)) (os : List (List (Option E))) (s : ESt), ks.length ≤ os.length → ks.Nodup → Holds kk s ks bs → Sim s (putBoxesE kk ks (os.take ks.length)) (fun _ => ()) (putBoxes kk ks (((newBoxes bs os).map cEs).take ks.length))
  | [], [], os, s, _, _, _ => by simp only [List.length_nil, List.take_zero]; exact Sim.ret rfl
  | [], b :: bs, os, s, _, _, h => h.elim
  | k :: ks, [], os, s, _, _, h => h.elim
  | k :: ks, b :: bs, [], s, hl, _, _ => by simp at hl
  | k :: ks, b :: bs, o :: os, s, hl, hn, h => by
    simp only [List.length_cons, List.take_succ_cons, newBoxes, List.map_cons, putBoxesE, putBoxes, bindE_eq, bind_eq]
    obtain ⟨⟨orig, ho, hok, rfl⟩, h2⟩ := h
    refine Sim.get ?_
    rw [ho]
    refine Sim.sure fun hp => ?_
    rw [Bool.and_eq_true] at hp
    obtain ⟨e1, e2⟩ := over_back (ks := kk) hp.1 hp.2
    have hn' := List.nodup_cons.1 hn
    rw [need_bind e2, e1]
    have ev : (cRV (s.get (.box k))).v = .agg (cEs orig) := by simp only [cRV, ho, cSV]
    rw [ev, keepPtr_same hp.2]
    cases keepPtr orig o with
    | true => exact putBoxesE_sim kk ks bs os _ (by simpa using hl) hn'.2 h2
    | false =>
      simp only
      rw [putR_bind]
      exact Sim.wr ho rfl (putBoxesE_sim kk ks bs os _ (by simpa using hl) hn'.2 (Holds.other ho hn'.1 h2))
theorem escapeE_sim (t : Nat) : ∀ (bs : List (List E)) (i : Nat) (s : ESt), Sim s (escapeE t i bs) (fun _ => ()) (escape t i (bs.map cEs))
  | [], i, s => Sim.ret rfl
  | b :: bs, i, s => by
    simp only [List.map_cons, escapeE, escape, bindE_eq, bind_eq]
    refine Sim.get ?_
    cases hv : (s.get (.box (.esc t i))).v with
    | undef =>
      simp only [cRV, hv, cSV]
      refine Sim.sure fun h => ?_
      rw [need_bind (plains_eq h), putE_bind, putR_bind]
      exact Sim.put rfl rfl (escapeE_sim t bs (i + 1) _)
    | _ => simp only [cRV, hv, cSV]; exact Sim.fail
theorem frzOk_eq {args : List SVE} {l : List (Nat × Nat)} (h : frzOkE args l = true) : frzOk (args.map cSV) l = true := by
  simp only [frzOkE, frzOk, List.all_eq_true] at h ⊢
  intro p hp
  have h1 := h p hp
  have e : ((args.map cSV).getD p.1 .undef).cells.getD p.2 .dead = cE ((args.getD p.1 .undef).cells.getD p.2 .dead) := by
    have e1 : (args.map cSV).getD p.1 .undef = cSV (args.getD p.1 .undef) := getD_map cSV args p.1 .undef
    rw [e1, cells_eq]
    exact getD_map cE _ p.2 .dead
  rw [e]
  obtain ⟨d, hd⟩ := isData_some h1
  rw [hd]
theorem backE_sim (ks : List Key) (t : Nat) (c : E) (s : ESt) : Sim s (backE ks t c) cE (back ks t (cE c)) := by
  cases c with
  | l m t xs => cases m <;> first | exact Sim.ret rfl | exact Sim.fail
  | n m t o => cases m <;> cases o <;> first | exact Sim.ret rfl | exact Sim.fail
  | ptr k off => cases k <;> first | exact Sim.ret rfl | exact Sim.fail
  | clo f caps =>
    simp only [backE, back, cE, bindE_eq, bind_eq]
    refine Sim.sure fun h => ?_
    rw [need_bind (by simpa using h)]
    exact Sim.ret rfl
  | ea => exact Sim.fail
  | da => exact Sim.fail
  | dead => exact Sim.fail
  | gone b => exact Sim.fail
  | _ => exact Sim.ret rfl
theorem backsE_sim (ks : List Key) (t : Nat) : ∀ (cs : List E) (s : ESt), Sim s (backsE ks t cs) cEs (backs ks t (cEs cs))
  | [], s => Sim.ret rfl
  | c :: cs, s => by
    show Sim s (backsE ks t (c :: cs)) cEs (backs ks t (cE c :: cEs cs))
    simp only [backsE, backs, bindE_eq, bind_eq]
    exact Sim.bind (backE_sim ks t c s) fun c' s1 => Sim.bind (backsE_sim ks t cs s1) fun cs' s2 => Sim.ret rfl
theorem backTupE_sim (ks : List Key) (t : Nat) : ∀ (vs : List (Bool × List E)) (s : ESt), Sim s (backTupE ks t vs) cTup (backTup ks t (cTup vs))
  | [], s => Sim.ret rfl
  | (b, cs) :: vs, s => by
    show Sim s (backTupE ks t ((b, cs) :: vs)) cTup (backTup ks t ((b, cEs cs) :: cTup vs))
    simp only [backTupE, backTup, bindE_eq, bind_eq]
    exact Sim.bind (backsE_sim ks t cs s) fun c' s1 => Sim.bind (backTupE_sim ks t vs s1) fun cs' s2 => Sim.ret rfl
theorem backSVE_sim (ks : List Key) (t : Nat) (v : SVE) (s : ESt) : Sim s (backSVE ks t v) cSV (backSV ks t (cSV v)) := by
  cases v with
  | one c =>
    show Sim s (backSVE ks t (.one c)) cSV (backSV ks t (.one (cE c)))
    simp only [backSVE, backSV, bindE_eq, bind_eq]
    exact Sim.bind (backE_sim ks t c s) fun c' s1 => Sim.ret rfl
  | agg cs =>
    show Sim s (backSVE ks t (.agg cs)) cSV (backSV ks t (.agg (cEs cs)))
    simp only [backSVE, backSV, bindE_eq, bind_eq]
    exact Sim.bind (backsE_sim ks t cs s) fun c' s1 => Sim.ret rfl
  | tup vs =>
    show Sim s (backSVE ks t (.tup vs)) cSV (backSV ks t (.tup (cTup vs)))
    simp only [backSVE, backSV, bindE_eq, bind_eq]
    exact Sim.bind (backTupE_sim ks t vs s) fun c' s1 => Sim.ret rfl
  | undef => exact Sim.fail
theorem newBoxes_drop {kk : List Key} : ∀ (ks : List Key) (bs : List (List E)) (os : List (List (Option E))) (s : ESt), Holds kk s ks bs → ks.length ≤ os.length → (newBoxes bs os).drop ks.length = (os.drop ks.length).map unS
  | [], [], os, s, _, _ => by simp [newBoxes]
  | [], _ :: _, os, s, h, _ => h.elim
  | _ :: _, [], os, s, h, _ => h.elim
  | k :: ks, b :: bs, [], s, _, hl => by simp at hl
  | k :: ks, b :: bs, o :: os, s, h, hl => by
    simp only [newBoxes, List.length_cons, List.drop_succ_cons]
    exact newBoxes_drop ks bs os s h.2 (by simpa using hl)
theorem newBoxes_length {kk : List Key} : ∀ (ks : List Key) (bs : List (List E)) (os : List (List (Option E))) (s : ESt), Holds kk s ks bs → ks.length ≤ os.length → ks.length ≤ (newBoxes bs os).length
  | [], _, os, s, _, _ => Nat.zero_le _
  | _ :: _, [], os, s, h, _ => h.elim
  | k :: ks, b :: bs, [], s, _, hl => by simp at hl
  | k :: ks, b :: bs, o :: os, s, h, hl => by
    simp only [newBoxes, List.length_cons]
    have := newBoxes_length ks bs os s h.2 (by simpa using hl)
    omega
theorem callE_sim (cfg : ECfg) (f : FuncId) (args : List SVE) (t : Nat) (s : ESt) : Sim s (callE cfg f args t) cSV (callP cfg.c f (args.map cSV) t) := by
  unfold callE callP
  show Sim s _ _ (match (match cfg.con t f with | some K => some K.F | none => none) with | none => Prog.fail | some F => _)
  cases cfg.con t f with
  | none => exact Sim.fail
  | some K =>
    simp only [bindE_eq, bind_eq]
    refine Sim.bind (prepSVsE_sim cfg.c args s) fun vs s1 => ?_
    rw [flat_eq, keysOf_eq]
    refine Sim.bind (boxKeysE_sim _ s1) fun more s1b => ?_
    refine Sim.bind (canonSVsE_sim _ vs s1b) fun cargs s2 => Sim.bind2 (R := fun bs s3 => Holds (dedup (keysOfE (vs.flatMap SVE.cells) ++ more)) s3 (dedup (keysOfE (vs.flatMap SVE.cells) ++ more)) bs) (getBoxesE_sim _ _ s2) (Tr.box_mono (fun x hx => by obtain ⟨h1, h2⟩ := hx; rw [h1]; exact h2) (getBoxesE_holds _ _ s2)) fun bs s3 hb => ?_
    cases hm : K.mat cargs bs with
    | none => exact Sim.fail
    | some x =>
      refine Sim.call fun y hy => Sim.sure fun h => ?_
      have hF := K.ok cargs bs x y hm hy
      simp only [Bool.and_eq_true, Nat.ble_eq] at h
      simp only [hF]
      rw [need_bind (by
        simp only [List.length_map]
        exact ⟨newBoxes_length _ _ _ _ hb h.1, frzOk_eq h.2⟩)]
      rw [← List.map_drop, newBoxes_drop _ _ _ _ hb h.1]
      exact Sim.bind (putBoxesE_sim _ _ bs _ s3 h.1 (dedup_nodup _) hb) fun _ s4 => Sim.bind (escapeE_sim t _ 0 s4) fun _ s5 => backSVE_sim _ t _ s5
theorem calleeE_sim (o : Operand) (s : ESt) : Sim s (calleeE o) (fun p => (p.1, p.2.map cSV)) (calleeP o) := by
  have gen : ∀ o, Sim s ((ev1E o).bind fun c => match c with | .clo f caps => PE.ret (f, caps.map fun p => SVE.one (.ptr p.1 p.2)) | _ => .fail) (fun p => (p.1, p.2.map cSV))
      ((ev1 o).bind fun c => match c with | .clo f caps => Prog.ret (f, caps.map fun p => SV.one (.ptr p.1 p.2)) | _ => .fail) := by
    intro o
    refine Sim.bind (ev1E_sim o s) fun c s1 => ?_
    cases c with
    | clo f caps => exact Sim.ret (by simp [cSV, cE])
    | l m t xs => cases m <;> exact Sim.fail
    | n m t o => cases m <;> cases o <;> exact Sim.fail
    | _ => exact Sim.fail
  cases o with
  | func f => exact Sim.ret rfl
  | tmp t => exact gen (.tmp t)
  | const v => exact gen (.const v)
  | global g => exact gen (.global g)
/-! ## A region's operations -/
theorem takeStore_eq (cfg : Cfg) (c : E) (r : Res) : takeStoreE cfg c r = takeStore cfg (cE c) r := by
  unfold takeStoreE takeStore
  cases c with
  | l m t xs => cases m <;> rfl
  | n m t o => cases m <;> cases o <;> rfl
  | ptr k off => cases k <;> rfl
  | gone b => cases b <;> rfl
  | _ => rfl
theorem move1E_sim (self : Res × Nat) (u : Operand) (c : E) (s : ESt) : Sim s (move1E self u c) cE (moveCell self u (cE c)) := by
  cases c with
  | l m t xs =>
    cases m with
    | bor r j hv cv k =>
      simp only [move1E, moveCell, cE, lC]
      cases hu : takeMove u r with
      | true => exact stashE_sim (some self) (takeMove u) (.l (.bor r j hv cv k) t xs) s
      | false => exact Sim.ret rfl
    | _ => exact Sim.ret rfl
  | n m t o =>
    cases m with
    | bor r j hv cv k =>
      simp only [move1E]
      cases hu : takeMove u r with
      | true =>
        cases o with
        | none => exact stashE_sim (some self) (takeMove u) (.n (.bor r j hv cv k) t none) s
        | some xs =>
          refine Sim.eqP (stashE_sim (some self) (takeMove u) (.n (.bor r j hv cv k) t (some xs)) s) ?_
          simp only [moveCell, cE, lC, hu, if_true]
      | false =>
        cases o with
        | none => exact Sim.ret rfl
        | some xs =>
          refine Sim.eqP (Sim.ret rfl) ?_
          show (if takeMove u r = true then _ else _) = _
          rw [if_neg (by simp [hu])]
          rfl
    | _ => cases o <;> exact Sim.ret rfl
  | gone b => cases b <;> exact Sim.ret rfl
  | _ => exact Sim.ret rfl
theorem moveCellsE_sim (r : Res) (u : Operand) : ∀ (cs : List E) (i : Nat) (s : ESt), Sim s (moveCellsE r u i cs) cEs (moveCells r u i (cEs cs))
  | [], i, s => Sim.ret rfl
  | c :: cs, i, s => by
    show Sim s (moveCellsE r u i (c :: cs)) cEs (moveCells r u i (cE c :: cEs cs))
    simp only [moveCellsE, moveCells, bindE_eq, bind_eq]
    exact Sim.bind (move1E_sim _ u c s) fun c' s1 => Sim.bind (moveCellsE_sim r u cs (i + 1) s1) fun cs' s2 => Sim.ret rfl
theorem moveTupE_sim (r : Res) (u : Operand) : ∀ (vs : List (Bool × List E)) (i : Nat) (s : ESt), Sim s (moveTupE r u i vs) cTup (moveTup r u i (cTup vs))
  | [], i, s => Sim.ret rfl
  | (b, cs) :: vs, i, s => by
    show Sim s (moveTupE r u i ((b, cs) :: vs)) cTup (moveTup r u i ((b, cEs cs) :: cTup vs))
    simp only [moveTupE, moveTup, bindE_eq, bind_eq, cEs_length]
    exact Sim.bind (moveCellsE_sim r u cs i s) fun c' s1 => Sim.bind (moveTupE_sim r u vs _ s1) fun cs' s2 => Sim.ret rfl
theorem moveSVE_sim (r : Res) (u : Operand) (v : SVE) (s : ESt) : Sim s (moveSVE r u v) cSV (moveSV r u (cSV v)) := by
  cases v with
  | one c =>
    show Sim s (moveSVE r u (.one c)) cSV (moveSV r u (.one (cE c)))
    simp only [moveSVE, moveSV, bindE_eq, bind_eq]
    exact Sim.bind (move1E_sim _ u c s) fun c' s1 => Sim.ret rfl
  | agg cs =>
    show Sim s (moveSVE r u (.agg cs)) cSV (moveSV r u (.agg (cEs cs)))
    simp only [moveSVE, moveSV, bindE_eq, bind_eq]
    exact Sim.bind (moveCellsE_sim r u cs 0 s) fun c' s1 => Sim.ret rfl
  | tup vs =>
    show Sim s (moveSVE r u (.tup vs)) cSV (moveSV r u (.tup (cTup vs)))
    simp only [moveSVE, moveSV, bindE_eq, bind_eq]
    exact Sim.bind (moveTupE_sim r u vs 0 s) fun c' s1 => Sim.ret rfl
  | undef => exact Sim.fail
theorem evOptE_sim (o : Option Operand) (s : ESt) : Sim s (evOptE o) (fun x => x) (evOpt o) := by
  cases o with
  | none => exact Sim.ret rfl
  | some o =>
    simp only [evOptE, evOpt, bindE_eq, bind_eq]
    exact Sim.bind (ev1E_sim o s) fun c s1 => Sim.bind (cIntE_sim c s1) fun n s2 => Sim.ret rfl
theorem minmaxE_sim (b : Bool) (vs : List SVE) (s : ESt) : Sim s (minmaxE b vs) cSV (minmax b (vs.map cSV)) := by
  unfold minmaxE
  split
  · cases b <;> exact Sim.ret rfl
  · exact Sim.fail
theorem isPtrs_eq : ∀ {vs : List SVE} {l : List (Key × Nat)}, isPtrs vs = some l → (vs.map cSV).mapM (fun v => match v with | .one (.ptr k o) => some (k, o) | _ => none) = some l
  | [], l, h => by cases h; rfl
  | v :: r, l, h => by
    unfold isPtrs at h
    split at h
    · rename_i p l' h1 h2
      cases h
      have ih := isPtrs_eq h2
      rw [List.map_cons, List.mapM_cons, ih]
      unfold isPtr at h1
      split at h1
      · cases h1; rfl
      · cases h1
    · cases h
end Go.Ve
/- The typed evaluator keeps step: operations and whole regions. -/
namespace Go.Ve
open Go.Vs
theorem pickE_sim (c a b : Operand) (s : ESt) : Sim s ((ev1E c).bind fun c' => match c' with
    | .tt => evE a
    | .ff => evE b
    | .b x => .br x ((know c true).bind fun _ => evE a) ((know c false).bind fun _ => evE b)
    | _ => .fail) cSV ((ev1 c).bind fun c' => (cBool c').bind fun b' => if b' = true then ev a else ev b) := by
  have kn : ∀ (c' : E) (s' : ESt), (∀ t, c ≠ .tmp t) → Sim s' (match c' with
    | .tt => evE a
    | .ff => evE b
    | .b x => .br x ((know c true).bind fun _ => evE a) ((know c false).bind fun _ => evE b)
    | _ => .fail) cSV ((cBool (cE c')).bind fun b' => if b' = true then ev a else ev b) := by
    intro c' s' hc
    have e : ∀ b, know c b = .ret () := by
      intro b
      cases c with
      | tmp t => exact absurd rfl (hc t)
      | _ => rfl
    cases c' with
    | tt => exact evE_sim a s'
    | ff => exact evE_sim b s'
    | b x =>
      simp only [e, retE_bind]
      refine Sim.br (fun h => ?_) fun h => ?_
      · subst h; exact evE_sim a s'
      · subst h; exact evE_sim b s'
    | l m t xs => cases m <;> exact Sim.fail
    | n m t o => cases m <;> cases o <;> exact Sim.fail
    | _ => exact Sim.fail
  cases c with
  | tmp t =>
    have e1 : ev1E (.tmp t) = .get (.tmp t) fun x => (match x.v with | .undef => PE.fail | _ => .ret (x.copy (.tmp t))).bind asOneE := rfl
    have e2 : ev1 (.tmp t) = .get (.tmp t) fun x => (match x.v with | .undef => Prog.fail | _ => .ret (x.copy (.tmp t))).bind asOne := rfl
    rw [e1, e2]
    refine Sim.get ?_
    dsimp only
    have hc := copy_eq (s.get (.tmp t)) (.tmp t)
    cases hv : (s.get (.tmp t)).v with
    | undef => exact Sim.fail
    | agg cs =>
      have h1 : (s.get (.tmp t)).copy (.tmp t) = .agg (bcellsE (.tmp t) (s.get (.tmp t)) 0 cs) := by unfold RVE.copy; rw [hv]
      rw [h1]; exact Sim.fail
    | tup cs =>
      have h1 : (s.get (.tmp t)).copy (.tmp t) = .tup (btupE (.tmp t) (s.get (.tmp t)) 0 cs) := by unfold RVE.copy; rw [hv]
      rw [h1]; exact Sim.fail
    | one c0 =>
      have h1 : (s.get (.tmp t)).copy (.tmp t) = .one (bcellE (.tmp t) (s.get (.tmp t)) 0 c0) := by unfold RVE.copy; rw [hv]
      have h2 : (cRV (s.get (.tmp t))).copy (.tmp t) = .one (cE (bcellE (.tmp t) (s.get (.tmp t)) 0 c0)) := by rw [← hc, h1]; rfl
      have h3 : (cRV (s.get (.tmp t))).v = .one (cE c0) := by simp only [cRV, hv, cSV]
      rw [h1, h2, h3]
      show Sim s ((PE.ret (bcellE (.tmp t) (s.get (.tmp t)) 0 c0)).bind _) _ ((Prog.ret (cE (bcellE (.tmp t) (s.get (.tmp t)) 0 c0))).bind _)
      rw [retE_bind]
      show Sim s _ _ ((cBool (cE (bcellE (.tmp t) (s.get (.tmp t)) 0 c0))).bind fun b' => if b' = true then ev a else ev b)
      cases c0 with
      | tt => exact evE_sim a s
      | ff => exact evE_sim b s
      | b x =>
        refine Sim.br (fun h => ?_) fun h => ?_
        · have := Sim.know (s := s) (p := evE a) (f := cSV) (q := ev a) hv h (evE_sim a _)
          subst h
          exact this
        · have := Sim.know (s := s) (p := evE b) (f := cSV) (q := ev b) hv h (evE_sim b _)
          subst h
          exact this
      | l m t xs => cases m <;> exact Sim.fail
      | n m t o => cases m <;> cases o <;> exact Sim.fail
      | _ => exact Sim.fail
  | _ => exact Sim.bind (ev1E_sim _ s) fun c' s1 => kn c' s1 (by intro t h; cases h)
theorem allocE_sim (cfg : ECfg) (t : TypeId) (dst : Nat) (s : ESt) : Sim s (avalE cfg (.alloc t) dst) cSV (aval cfg.c (.alloc t) dst) := by
  simp only [avalE, aval]
  split
  · rename_i size bytes kind z h
    simp only [h, bindE_eq, bind_eq]
    refine Sim.sure fun hz => ?_
    rw [need_bind (by simpa using hz)]
    refine Sim.get ?_
    cases hv : (s.get (.box (.loc dst))).v with
    | undef =>
      simp only [cRV, hv, cSV]
      cases ho : ofDs z with
      | none => exact Sim.fail
      | some cs =>
        simp only [putE_bind, putR_bind]
        refine Sim.put rfl ?_ (Sim.ret rfl)
        simp only [cRV, cSV, ofDs_eq ho]
    | _ => simp only [cRV, hv, cSV]; exact Sim.fail
  · exact Sim.fail
theorem boxE_sim (cfg : ECfg) (t : TypeId) (x : Operand) (dst : Nat) (s : ESt) : Sim s (avalE cfg (.box t x) dst) cSV (aval cfg.c (.box t x) dst) := by
  simp only [avalE, aval, bindE_eq, bind_eq]
  refine Sim.bind (evE_sim x s) fun v s1 => ?_
  rw [asCells_eq]
  cases v.asCells with
  | none => exact Sim.fail
  | some cs =>
    simp only [Option.map_some]
    have e : takeStoreE cfg.c (.ptr (.loc dst) 0) = takeStore cfg.c (.ptr (.loc dst) 0) := by funext r; exact takeStore_eq _ _ _
    rw [e]
    refine Sim.bind (stashesE_sim _ _ cs 0 s1) fun cs' s2 => Sim.get ?_
    cases hv : (s2.get (.box (.loc dst))).v with
    | undef =>
      simp only [cRV, hv, cSV, putE_bind, putR_bind]
      exact Sim.put rfl rfl (Sim.ret rfl)
    | _ => simp only [cRV, hv, cSV]; exact Sim.fail
theorem binOpE_sim (cfg : ECfg) (op : BinOp) (t : TypeId) (x y : Operand) (yt : TypeId) (dst : Nat) (s : ESt) : Sim s (avalE cfg (.binOp op t x y yt) dst) cSV (aval cfg.c (.binOp op t x y yt) dst) := by
  simp only [avalE, aval, bindE_eq, bind_eq]
  refine Sim.bind (evE_sim x s) fun v s1 => Sim.bind (evE_sim y s1) fun u s2 => ?_
  cases v <;> cases u <;> first | exact binE_sim _ _ _ _ _ _ | exact eqAggE_sim _ _ _ _ _ _ | exact Sim.fail
theorem unOpE_sim (cfg : ECfg) (op : UnOp) (t : TypeId) (x : Operand) (dst : Nat) (s : ESt) : Sim s (avalE cfg (.unOp op t x) dst) cSV (aval cfg.c (.unOp op t x) dst) := by
  simp only [avalE, aval, bindE_eq, bind_eq]
  refine Sim.bind (ev1E_sim x s) fun c s1 => ?_
  cases c with
  | l m t xs => cases m <;> cases op <;> exact Sim.fail
  | n m t o => cases m <;> cases o <;> cases op <;> exact Sim.fail
  | i k n => cases op <;> first | exact Sim.ret rfl | exact binIntE_sim _ _ _ _ _ | exact Sim.fail
  | _ => cases op <;> first | exact Sim.ret rfl | exact Sim.fail
theorem makeFuncE_sim (cfg : ECfg) (f : Fn) (first captured : Array Operand) (dst : Nat) (s : ESt) : Sim s (avalE cfg (.makeFunc f first captured) dst) cSV (aval cfg.c (.makeFunc f first captured) dst) := by
  cases f with
  | func f =>
    simp only [avalE, aval, bindE_eq, bind_eq]
    refine Sim.sure fun h => ?_
    rw [need_bind (by
      have : first.toList = [] := by simpa using h
      exact Array.toList_inj.1 (by simpa using this))]
    refine Sim.bind (evsE_sim _ s) fun vs s1 => ?_
    cases hp : isPtrs vs with
    | none => exact Sim.fail
    | some l =>
      have := congrArg (fun o : Option (List (Key × Nat)) => match o with | some l => Prog.ret (SV.one (.clo f l)) | none => .fail) (isPtrs_eq hp)
      exact Sim.eqP (Sim.ret rfl) this
  | _ => exact Sim.fail
theorem sliceE_sim (cfg : ECfg) (t : TypeId) (x : Operand) (lo hi mx : Option Operand) (dst : Nat) (s : ESt) : Sim s (avalE cfg (.slice t x lo hi mx) dst) cSV (aval cfg.c (.slice t x lo hi mx) dst) := by
  cases mx with
  | some m => exact Sim.fail
  | none =>
    simp only [avalE, aval]
    split
    · rename_i h
      simp only [h, bindE_eq, bind_eq]
      exact Sim.bind (evE_sim x s) fun v s1 => Sim.bind (evOptE_sim lo s1) fun l s2 => Sim.bind (evOptE_sim hi s2) fun h s3 => subStrE_sim _ _ _ s3
    · rename_i h
      simp only [h]
      split
      · rename_i h2
        simp only [h2, bindE_eq, bind_eq]
        exact Sim.bind (evE_sim x s) fun v s1 => Sim.bind (evOptE_sim lo s1) fun l s2 => Sim.bind (evOptE_sim hi s2) fun h s3 => subSlE_sim _ _ _ _ s3
      · exact Sim.fail
    · exact Sim.fail
theorem fieldValE_sim (cfg : ECfg) (t : TypeId) (x : Operand) (f : Nat) (dst : Nat) (s : ESt) : Sim s (avalE cfg (.field t x f) dst) cSV (aval cfg.c (.field t x f) dst) := by
  simp only [avalE, aval, bindE_eq, bind_eq]
  refine Sim.bind (evE_sim x s) fun v s1 => ?_
  split
  · rename_i h
    simp only [h, cSV]
    split
    · rename_i h2
      simp only [h2]
      split
      · rename_i h3
        simp only [h3]
        exact slice1E_sim _ _ _ s1
      · exact Sim.fail
    · exact Sim.fail
  · exact Sim.fail
theorem extractE_sim (cfg : ECfg) (x : Operand) (n : Nat) (dst : Nat) (s : ESt) : Sim s (avalE cfg (.extract x n) dst) cSV (aval cfg.c (.extract x n) dst) := by
  simp only [avalE, aval, bindE_eq, bind_eq]
  refine Sim.bind (evE_sim x s) fun v s1 => ?_
  cases v with
  | tup vs =>
    simp only [cSV]
    have hg : (cTup vs)[n]? = (vs[n]?).map fun p => (p.1, cEs p.2) := by simp [cTup]
    rw [hg]
    cases vs[n]? with
    | none => exact Sim.fail
    | some p =>
      obtain ⟨b, cs⟩ := p
      cases b with
      | true => exact moveSVE_sim _ _ (.agg cs) s1
      | false =>
        cases cs with
        | nil => exact Sim.fail
        | cons c r => cases r <;> first | exact moveSVE_sim _ _ (.one c) s1 | exact Sim.fail
  | _ => exact Sim.fail
theorem callOpE_sim (cfg : ECfg) (c : Call) (dst : Nat) (s : ESt) : Sim s (avalE cfg (.call c) dst) cSV (aval cfg.c (.call c) dst) := by
  obtain ⟨callee, args, tys⟩ := c
  cases callee with
  | value o =>
    simp only [avalE, aval, bindE_eq, bind_eq]
    refine Sim.bind (calleeE_sim o s) fun p s1 => Sim.bind (evsE_sim _ s1) fun vs s2 => ?_
    have := callE_sim cfg p.1 (vs ++ p.2) dst s2
    rw [List.map_append] at this
    exact this
  | invoke r m => exact Sim.fail
  | builtin b =>
    cases b with
    | len =>
      simp only [avalE, aval]
      split
      · rename_i h1 h2
        simp only [h1, h2]
        split
        · rename_i h3
          simp only [h3, bindE_eq, bind_eq]
          exact Sim.bind (evE_sim _ s) fun v s1 => lenE_sim _ _ s1
        · rename_i h3
          simp only [h3, bindE_eq, bind_eq]
          exact Sim.bind (evE_sim _ s) fun v s1 => lenE_sim _ _ s1
        · exact Sim.fail
      · exact Sim.fail
    | append =>
      simp only [avalE, aval]
      split
      · rename_i h1 h2
        simp only [h1, h2]
        split
        · rename_i h3
          simp only [h3]
          split
          · rename_i h4 h5
            simp only [h4]
            split
            · rename_i h6
              simp only [h6, bindE_eq, bind_eq]
              refine Sim.bind (ev1E_sim _ s) fun c s1 => Sim.bind (ev1E_sim _ s1) fun c2 s2 => ?_
              exact Sim.bind (cIntE_sim _ s2) fun n s3 => appendMakeE_sim _ _ _ _ s3
            rename_i h6
            split
            · rename_i h7; exact absurd h7 (h6 _ _ _)
            simp only [bindE_eq, bind_eq]
            exact Sim.bind (ev1E_sim _ s) fun c s1 => Sim.bind (ev1E_sim _ s1) fun c2 s2 => Sim.bind (addedE_sim _ _ _ _ _ s2) fun ys s3 => appendE_sim _ _ _ _ _ s3
          · exact Sim.fail
        · exact Sim.fail
      · exact Sim.fail
    | cap =>
      simp only [avalE, aval]
      split
      · rename_i h1 h2
        simp only [h1, h2]
        split
        · rename_i h3
          simp only [h3, bindE_eq, bind_eq]
          exact Sim.bind (ev1E_sim _ s) fun c s1 => capE_sim _ s1
        · exact Sim.fail
      · exact Sim.fail
    | min => simp only [avalE, aval, bindE_eq, bind_eq]; exact Sim.bind (evsE_sim _ s) fun vs s1 => minmaxE_sim _ _ s1
    | max => simp only [avalE, aval, bindE_eq, bind_eq]; exact Sim.bind (evsE_sim _ s) fun vs s1 => minmaxE_sim _ _ s1
    | _ => exact Sim.fail
theorem avalE_sim (cfg : ECfg) (op : Op) (dst : Nat) (s : ESt) : Sim s (avalE cfg op dst) cSV (aval cfg.c op dst) := by
  cases op with
  | move x =>
    simp only [avalE, aval, bindE_eq, bind_eq]
    refine Sim.bind (evE_sim x s) fun v s1 => ?_
    cases Vs.isVar cfg.c x with
    | true => simp only [if_true]; exact Sim.ret rfl
    | false => simp only [Bool.false_eq_true, if_false]; exact moveSVE_sim _ x v s1
  | assign x =>
    simp only [avalE, aval, bindE_eq, bind_eq]
    exact Sim.bind (evE_sim x s) fun v s1 => stashSVE_sim _ _ v s1
  | pick c a b => exact pickE_sim c a b s
  | alloc t => exact allocE_sim cfg t dst s
  | box t x => exact boxE_sim cfg t x dst s
  | build t ps => exact buildE_sim _ _ _ s
  | buildSlice t len ps => exact buildSliceE_sim _ _ _ _ s
  | load t a =>
    simp only [avalE, aval]
    split
    · rename_i h
      simp only [h, bindE_eq, bind_eq]
      exact Sim.bind (ev1E_sim a s) fun c s1 => loadE_sim _ _ s1
    · exact Sim.fail
  | nilCheck x =>
    simp only [avalE, aval, bindE_eq, bind_eq]
    refine Sim.bind (ev1E_sim x s) fun c s1 => ?_
    cases c with
    | l m t xs => cases m <;> exact Sim.fail
    | n m t o => cases m <;> cases o <;> exact Sim.fail
    | _ => first | exact Sim.ret rfl | exact Sim.fail
  | binOp op t x y yt => exact binOpE_sim cfg op t x y yt dst s
  | unOp op t x => exact unOpE_sim cfg op t x dst s
  | convert a b x =>
    simp only [avalE, aval, bindE_eq, bind_eq]
    exact Sim.bind (evE_sim x s) fun v s1 => convertE_sim _ _ _ _ s1
  | makeFunc f a b => exact makeFuncE_sim cfg f a b dst s
  | makeSlice t l c =>
    simp only [avalE, aval, bindE_eq, bind_eq]
    exact Sim.bind (ev1E_sim l s) fun v s1 => Sim.bind (cIntE_sim v s1) fun n s2 => Sim.bind (ev1E_sim c s2) fun u s3 => Sim.bind (cIntE_sim u s3) fun m s4 => makeSliceE_sim _ _ _ _ s4
  | slice t x lo hi mx => exact sliceE_sim cfg t x lo hi mx dst s
  | fieldAddr t x f =>
    simp only [avalE, aval, bindE_eq, bind_eq]
    exact Sim.bind (ev1E_sim x s) fun v s1 => Sim.bind (fieldE_sim _ _ _ _ s1) fun u s2 => Sim.ret rfl
  | field t x f => exact fieldValE_sim cfg t x f dst s
  | indexAddr t x ix =>
    simp only [avalE, aval, bindE_eq, bind_eq]
    exact Sim.bind (ev1E_sim x s) fun v s1 => Sim.bind (ev1E_sim ix s1) fun u s2 => Sim.bind (cIntE_sim u s2) fun n s3 => Sim.bind (indexAddrE_sim _ _ _ _ s3) fun w s4 => Sim.ret rfl
  | index t x ix =>
    simp only [avalE, aval, bindE_eq, bind_eq]
    exact Sim.bind (evE_sim x s) fun v s1 => Sim.bind (ev1E_sim ix s1) fun u s2 => Sim.bind (cIntE_sim u s2) fun n s3 => indexE_sim _ _ _ _ s3
  | extract x n => exact extractE_sim cfg x n dst s
  | call c => exact callOpE_sim cfg c dst s
  | _ => exact Sim.fail
theorem putTmpE_sim (cfg : ECfg) (t : Nat) (v : SVE) (s : ESt) : Sim s (putTmpE cfg t v) (fun _ => ()) (putTmp cfg.c t (cSV v)) := by
  simp only [putTmpE, putTmp, bindE_eq, bind_eq]
  refine Sim.get (Sim.sure fun h => ?_)
  rw [need_bind (p := t < cfg.c.N) ((nlt_iff _ _).1 h)]
  exact Sim.put rfl rfl (Sim.ret rfl)
theorem step0E_sim (cfg : ECfg) (o : Oper) (s : ESt) : Sim s (step0E cfg o) (fun _ => ()) (astep0 cfg.c o) := by
  obtain ⟨dst, op, ty, pos, after, guard⟩ := o
  cases dst with
  | some d =>
    have e1 : step0E cfg ⟨some d, op, ty, pos, after, guard⟩ = (avalE cfg op d).bind fun v => putTmpE cfg d v := by cases op <;> rfl
    have e2 : astep0 cfg.c ⟨some d, op, ty, pos, after, guard⟩ = (aval cfg.c op d).bind fun v => putTmp cfg.c d v := by cases op <;> rfl
    rw [e1, e2]
    exact Sim.bind (avalE_sim cfg op d s) fun v s1 => putTmpE_sim cfg d v s1
  | none =>
    cases op with
    | store t a x =>
      simp only [step0E, astep0]
      split
      · rename_i h3
        simp only [h3, bindE_eq, bind_eq]
        exact Sim.bind (ev1E_sim _ s) fun c s1 => Sim.bind (evE_sim _ s1) fun v s2 => storeE_sim _ _ (funext fun r => takeStore_eq _ _ _) _ _ _ s2
      · exact Sim.fail
    | _ => exact Sim.fail
theorem stepE_sim (cfg : ECfg) (ops : Array Oper) (o : Oper) (s : ESt) : Sim s (stepE cfg ops o) (fun _ => ()) (astep cfg.c ops o) := by
  unfold stepE astep
  cases o.guard with
  | none => exact step0E_sim cfg o s
  | some p =>
    obtain ⟨j, want⟩ := p
    have undo : ∀ s', Sim s' (match o.dst with | some d => putTmpE cfg d (.tup []) | none => PE.ret ()) (fun _ => ()) (match o.dst with | some d => putTmp cfg.c d (.tup []) | none => Prog.ret ()) := by
      intro s'
      cases o.dst with
      | none => exact Sim.ret rfl
      | some d => exact putTmpE_sim cfg d (.tup []) s'
    simp only [bind_eq]
    unfold guardVal
    cases (ops[j]?).bind (·.dst) with
    | none => exact Sim.fail
    | some t =>
      refine Sim.get ?_
      dsimp only
      cases hv : (s.get (.tmp t)).v with
      | undef => exact Sim.fail
      | agg cs => exact Sim.fail
      | tup cs =>
        cases cs with
        | cons => exact Sim.fail
        | nil =>
          have h3 : (cRV (s.get (.tmp t))).v = .tup [] := by simp only [cRV, hv, cSV]; rfl
          rw [h3]
          show Sim s _ _ (if none = some want then astep0 cfg.c o else _)
          rw [if_neg (by simp)]
          exact undo s
      | one c =>
        have h3 : (cRV (s.get (.tmp t))).v = .one (cE c) := by simp only [cRV, hv, cSV]
        rw [h3]
        cases c with
        | tt =>
          show Sim s (match want with | true => step0E cfg o | false => _) _ (if some true = some want then astep0 cfg.c o else _)
          cases want with
          | true => simp only [if_true]; exact step0E_sim cfg o s
          | false => rw [if_neg (by simp)]; exact undo s
        | ff =>
          show Sim s (match want with | true => _ | false => step0E cfg o) _ (if some false = some want then astep0 cfg.c o else _)
          cases want with
          | true => rw [if_neg (by simp)]; exact undo s
          | false => simp only [if_true]; exact step0E_sim cfg o s
        | b x =>
          show Sim s (match want with | true => PE.br x _ _ | false => PE.br x _ _) _ (if some x = some want then astep0 cfg.c o else _)
          cases want with
          | true =>
            refine Sim.br (fun h => ?_) fun h => ?_
            · subst h; simp only [if_true]; exact Sim.know hv rfl (step0E_sim cfg o _)
            · subst h; rw [if_neg (by simp)]; exact Sim.know hv rfl (undo _)
          | false =>
            refine Sim.br (fun h => ?_) fun h => ?_
            · subst h; rw [if_neg (by simp)]; exact Sim.know hv rfl (undo _)
            · subst h; simp only [if_true]; exact Sim.know hv rfl (step0E_sim cfg o _)
        | l m t xs => cases m <;> exact Sim.fail
        | n m t o => cases m <;> cases o <;> exact Sim.fail
        | _ => exact Sim.fail
/-- more was looked at and written here than there -/
def FpSub : List (List Res × List Res) → List (List Res × List Res) → Prop
  | [], [] => True
  | a :: l, b :: m => (∀ r ∈ a.1, r ∈ b.1) ∧ (∀ r ∈ a.2, r ∈ b.2) ∧ FpSub l m
  | _, _ => False
theorem FpSub.length : ∀ {l m : List (List Res × List Res)}, FpSub l m → l.length = m.length
  | [], [], _ => rfl
  | _ :: _, _ :: _, h => by simp only [List.length_cons, FpSub.length h.2.2]
  | [], _ :: _, h => h.elim
  | _ :: _, [], h => h.elim
theorem FpSub.getD : ∀ {l m : List (List Res × List Res)}, FpSub l m → ∀ i, (∀ r ∈ (l.getD i ([], [])).1, r ∈ (m.getD i ([], [])).1) ∧ ∀ r ∈ (l.getD i ([], [])).2, r ∈ (m.getD i ([], [])).2
  | [], [], _, i => ⟨fun _ h => h, fun _ h => h⟩
  | _ :: _, _ :: _, h, 0 => ⟨h.1, h.2.1⟩
  | _ :: _, _ :: _, h, i + 1 => by simpa using FpSub.getD h.2.2 i
  | [], _ :: _, h, _ => h.elim
  | _ :: _, [], h, _ => h.elim
theorem indep_sub {a b a' b' : List Res × List Res} (h : indep a' b' = true) (h1 : ∀ r ∈ a.1, r ∈ a'.1) (h2 : ∀ r ∈ a.2, r ∈ a'.2) (h3 : ∀ r ∈ b.1, r ∈ b'.1) (h4 : ∀ r ∈ b.2, r ∈ b'.2) : indep a b = true := by
  simp only [indep, Bool.and_eq_true, List.all_eq_true, Bool.not_eq_true', List.contains_eq_mem, decide_eq_false_iff_not] at h ⊢
  exact ⟨fun r hr => ⟨fun hq => (h.1 r (h2 r hr)).1 (h3 r hq), fun hq => (h.1 r (h2 r hr)).2 (h4 r hq)⟩, fun r hr hq => h.2 r (h4 r hr) (h1 r hq)⟩
theorem FpSub.pairs {l m : List (List Res × List Res)} (h : FpSub l m) {an : List (List Nat)} (hp : pairsOk m an = true) : pairsOk l an = true := by
  simp only [pairsOk, List.all_eq_true, List.mem_range, Bool.or_eq_true] at hp ⊢
  intro j hj i hi
  rcases hp j (by rw [← h.length]; exact hj) i hi with q | q
  · exact .inl q
  · exact .inr (indep_sub q (h.getD i).1 (h.getD i).2 (h.getD j).1 (h.getD j).2)
/-- a whole region -/
theorem runE_sim (cfg : ECfg) (ops : Array Oper) : ∀ (l : List Oper) (s : ESt), (runE cfg ops l s).box fun x => ∃ fps, runBoth cfg.c ops l (cSt s) = some (cSt x.1, fps) ∧ FpSub fps x.2
  | [], s => ⟨[], rfl, trivial⟩
  | o :: r, s => by
    simp only [runE]
    rw [Tr.box_bind]
    refine Tr.box_mono ?_ (stepE_sim cfg ops o s)
    rintro ⟨a, s', f, g⟩ ⟨fr, fw, h, i1, i2⟩
    simp only at h i1 i2 ⊢
    rw [Tr.box_bind]
    refine Tr.box_mono ?_ (runE_sim cfg ops r s')
    rintro ⟨s'', l⟩ ⟨fps, h2, h3⟩
    simp only at h2 h3 ⊢
    exact ⟨(fr, fw) :: fps, by simp only [runBoth, h, h2], i1, i2, h3⟩
end Go.Ve
/- Between regions: states, what a state may lose, what stays untouched. -/
namespace Go.Ve
open Go.Vs
/-! ## What a state may lose -/
def WkC (c c' : C) : Prop := c' = c ∨ c' = .dead
def WkSV : SV → SV → Prop
  | _, .undef => True
  | .one c, .one c' => WkC c c'
  | .agg cs, .agg cs' => All2 WkC cs cs'
  | .tup vs, .tup vs' => All2 (fun p q => p.1 = q.1 ∧ All2 WkC p.2 q.2) vs vs'
  | _, _ => False
theorem WkC.all_refl : ∀ (cs : List C), All2 WkC cs cs
  | [] => trivial
  | _ :: cs => ⟨.inl rfl, WkC.all_refl cs⟩
theorem All2.comp {α β γ : Type} {R : α → β → Prop} {S : β → γ → Prop} {U : α → γ → Prop} (h : ∀ a b c, R a b → S b c → U a c) : ∀ {as : List α} {bs : List β} {cs : List γ}, All2 R as bs → All2 S bs cs → All2 U as cs
  | [], [], [], _, _ => trivial
  | _ :: _, _ :: _, _ :: _, h1, h2 => ⟨h _ _ _ h1.1 h2.1, All2.comp h h1.2 h2.2⟩
  | [], [], _ :: _, _, h2 => h2.elim
  | _ :: _, [], _, h1, _ => h1.elim
  | [], _ :: _, _, h1, _ => h1.elim
  | _ :: _, _ :: _, [], _, h2 => h2.elim
theorem SVRel.weak {R R' : C → Value → Prop} {u : Value} {v v' : SV} (hR : ∀ c c' x, R c x → WkC c c' → R' c' x) (h : SVRel R u v) (hw : WkSV v v') : SVRel R' u v' := by
  cases v' with
  | undef => trivial
  | one c' => cases v <;> first | exact ⟨h.1, hR _ _ _ h.2 hw⟩ | exact hw.elim
  | agg cs' =>
    cases v with
    | agg cs =>
      obtain ⟨ws, h1, h2⟩ := h
      exact ⟨ws, h1, All2.comp (fun a b c h1 h2 => hR b c a h1 h2) h2 hw⟩
    | _ => exact hw.elim
  | tup vs' =>
    cases v with
    | tup vs =>
      obtain ⟨ws, h1, h2⟩ := h
      refine ⟨ws, h1, All2.comp ?_ h2 hw⟩
      rintro x ⟨b, cs⟩ ⟨b', cs'⟩ hx ⟨e, hy⟩
      simp only at e hy
      subst e
      unfold TRel at hx ⊢
      cases b with
      | true =>
        simp only [if_true] at hx ⊢
        obtain ⟨ws, g1, g2⟩ := hx
        exact ⟨ws, g1, All2.comp (fun a b c h1 h2 => hR b c a h1 h2) g2 hy⟩
      | false =>
        simp only [Bool.false_eq_true, if_false] at hx ⊢
        obtain ⟨c, g1, g2, g3⟩ := hx
        subst g1
        cases cs' with
        | nil => exact hy.elim
        | cons c' r =>
          cases r with
          | nil => exact ⟨c', rfl, g2, hR _ _ _ g3 hy.1⟩
          | cons => exact hy.2.elim
    | _ => exact hw.elim
theorem WkSV.cell : ∀ {v v' : SV}, WkSV v v' → ∀ (j : Nat) (c' : C), v'.cells[j]? = some c' → ∃ c, v.cells[j]? = some c ∧ WkC c c' := by
  have flat : ∀ {cs cs' : List C}, All2 WkC cs cs' → ∀ (j : Nat) (c' : C), cs'[j]? = some c' → ∃ c, cs[j]? = some c ∧ WkC c c' := fun h j c' hc => h.get hc
  have app : ∀ {cs cs' ds ds' : List C}, All2 WkC cs cs' → All2 WkC ds ds' → All2 WkC (cs ++ ds) (cs' ++ ds') := fun h1 h2 => All2.append h1 h2
  intro v v' h j c' hc
  cases v' with
  | undef => simp [SV.cells] at hc
  | one d =>
    cases v <;> first | exact flat (cs := [_]) (cs' := [_]) ⟨h, trivial⟩ j c' hc | exact h.elim
  | agg cs' => cases v <;> first | exact flat h j c' hc | exact h.elim
  | tup vs' =>
    cases v with
    | tup vs =>
      replace hc : (vs'.flatMap (fun p : Bool × List C => p.2))[j]? = some c' := hc
      show ∃ c, (vs.flatMap (fun p : Bool × List C => p.2))[j]? = some c ∧ _
      refine flat ?_ j c' hc
      clear hc
      have : ∀ {vs vs' : List (Bool × List C)}, All2 (fun p q => p.1 = q.1 ∧ All2 WkC p.2 q.2) vs vs' → All2 WkC (vs.flatMap (·.2)) (vs'.flatMap (·.2)) := by
        intro vs
        induction vs with
        | nil => intro vs' h; cases vs' <;> first | trivial | exact h.elim
        | cons p vs ih =>
          intro vs' h
          cases vs' with
          | nil => exact h.elim
          | cons q vs' => simp only [List.flatMap_cons]; exact app h.1.2 (ih h.2)
      exact this h
    | _ => exact h.elim
section
variable {K : Ctx} {β : Key → Option Nat} {ω : Nat → Option Holder} {Z : Nat → Prop} {s s' : St} {a : Act} {w : World}
theorem Rel.weak (h : Rel K β ω Z s a w) (hz : ∀ r, (s' r).hv = (s r).hv ∧ (s' r).cv = (s r).cv) (ht : ∀ t, WkSV (s (.tmp t)).v (s' (.tmp t)).v)
    (hb : ∀ k, WkSV (s (.box k)).v (s' (.box k)).v ∧ ((s' (.box k)).v = .undef → (s (.box k)).v = .undef)) (ha : ∀ i, (s' (.arg i)).v = (s (.arg i)).v) : Rel K β ω Z s' a w := by
  have hall : ∀ r, WkSV (s r).v (s' r).v := by
    intro r
    cases r with
    | tmp t => exact ht t
    | box k => exact (hb k).1
    | arg i =>
      rw [ha]
      cases hv : (s (.arg i)).v with
      | one c => exact .inl rfl
      | agg cs => exact WkC.all_refl cs
      | tup vs =>
        show All2 _ vs vs
        clear hv
        induction vs with
        | nil => trivial
        | cons p vs ih => exact ⟨⟨rfl, WkC.all_refl _⟩, ih⟩
      | undef => trivial
  have hat : ∀ r j, (s' r).at j ≠ .dead → (s' r).at j = (s r).at j := by
    intro r j hd
    cases hc : (s' r).v.cells[j]? with
    | none => exact absurd (by simp [RV.at, List.getD_eq_getElem?_getD, hc]) hd
    | some c =>
      obtain ⟨c0, h0, h1⟩ := (hall r).cell j c hc
      have e0 := at_of_cells h0
      have e1 := at_of_cells hc
      rw [e1] at hd ⊢
      rw [e0]
      rcases h1 with h1 | h1
      · exact h1
      · exact absurd h1 hd
  have hcr : ∀ (c : C) (u : Value), CRel K β Z s a w c u → CRel K β Z s' a w c u := by
    intro c u hcu
    cases c with
    | bor r j hv cv e k xs =>
      obtain ⟨ad', cap', g1, g2, g3, g4, g5, g6⟩ := hcu
      refine ⟨ad', cap', g1, g2, g3, by rw [(hz r).1]; exact g4, by rw [(hz r).2]; exact g5, fun e1 e2 => ?_⟩
      rw [(hz r).1] at e1
      have e3 := hat r j e2
      obtain ⟨ad, len, cap, f1, f2, f3, f4, f4b, f5, f6, f7, ys, f8, f9⟩ := g6 e1 (by rw [← e3]; exact e2)
      exact ⟨ad, len, cap, f1, f2, f3, f4, f4b, f5, f6, f7, ys, by rw [e3]; exact f8, fun e4 => f9 (by rw [← (hz r).2]; exact e4)⟩
    | ea r j hv e i off =>
      obtain ⟨b, o, g1, g2, g3⟩ := hcu
      refine ⟨b, o, g1, by rw [(hz r).1]; exact g2, fun e1 e2 => ?_⟩
      rw [(hz r).1] at e1
      have e3 := hat r j e2
      obtain ⟨ad, len, cap, f1, f2, f3, f4, ys, f5⟩ := g3 e1 (by rw [← e3]; exact e2)
      exact ⟨ad, len, cap, f1, f2, f3, f4, ys, by rw [e3]; exact f5⟩
    | _ => exact hcu
  have hcw : ∀ (c c' : C) (u : Value), CRel K β Z s a w c u → WkC c c' → CRel K β Z s' a w c' u := by
    intro c c' u h1 h2
    rcases h2 with rfl | rfl
    · exact hcr _ u h1
    · trivial
  have hcell : ∀ (r : Res) (j e : Nat) (xs : List (List D)), (s' r).v.cells[j]? = some (.own e xs) → (s r).v.cells[j]? = some (.own e xs) := by
    intro r j e xs hc
    obtain ⟨c, h1, h2⟩ := (hall r).cell j _ hc
    rcases h2 with h2 | h2
    · rw [h1, ← h2]
    · cases h2
  refine ⟨h.size, h.defers, h.os, h.tape, h.output, h.base, h.frame, h.zin, h.zold, ?_, fun t => SVRel.weak hcw (h.tmps t) (ht t), fun i => SVRel.weak hcw (h.args i) (hall (.arg i)), ?_, ?_, ?_, h.ωok, h.βold⟩
  · intro b hb'
    rcases h.znew b hb' with g | g | g | ⟨i, j, e, ys, ad, len, cap, g1, g2, g3⟩
    · exact .inl g
    · exact .inr (.inl g)
    · exact .inr (.inr (.inl g))
    · exact .inr (.inr (.inr ⟨i, j, e, ys, ad, len, cap, by rw [ha]; exact g1, g2, g3⟩))
  · intro k
    have hbx := h.boxes k
    cases hv : (s (.box k)).v with
    | agg cs =>
      have hw := (hb k).1
      rw [hv] at hw
      cases hv' : (s' (.box k)).v with
      | agg cs' =>
        rw [hv'] at hw
        obtain ⟨b, ws, el, lo, hi, g1, g2, g3, g4, g5⟩ := BoxRel.cell h hv
        exact ⟨b, ws, el, lo, hi, g1, g2, g3, g4, All2.comp (fun a b c h1 h2 => hcw b c a h1 h2) g5 hw⟩
      | undef => have := (hb k).2 hv'; rw [hv] at this; cases this
      | one c => rw [hv'] at hw; exact hw.elim
      | tup vs => rw [hv'] at hw; exact hw.elim
    | undef =>
      have hw := (hb k).1
      rw [hv] at hw hbx
      cases hv' : (s' (.box k)).v with
      | undef => exact hbx
      | _ => rw [hv'] at hw; exact hw.elim
    | one c => rw [hv] at hbx; exact hbx.elim
    | tup vs => rw [hv] at hbx; exact hbx.elim
  · intro r j e xs ad len cap hr hc hh
    exact h.own r j e xs ad len cap hr (hcell r j e xs hc) hh
  · intro i j e xs ad len cap hc hh
    exact h.argown i j e xs ad len cap (hcell (.arg i) j e xs hc) hh
end
/-! ## States between regions -/
structure PSE where
  slots : List (Nat × SVE)
  boxes : List (Key × List E)
  frz : List (Nat × Nat)
  dirty : List (Res × Option (List Bool))
def lkT (t : Nat) : List (Nat × SVE) → SVE
  | [] => .undef
  | (u, v) :: r => match t == u with
    | true => v
    | false => lkT t r
def lkB (k : Key) : List (Key × List E) → Option (List E)
  | [] => none
  | (q, v) :: r => match keqb k q with
    | true => some v
    | false => lkB k r
def stM (p : PSE) : List (Res × RVE) := p.slots.map (fun x => (.tmp x.1, { v := x.2 })) ++ p.boxes.map fun x => (.box x.1, { v := .agg x.2 })
def stOf (A : List SVE) (p : PSE) : ESt := { m := stM p, args := A, frz := p.frz, dirty := p.dirty }
def cPS (A : List SVE) (p : PSE) : PS := { slots := p.slots.map fun x => (x.1, cSV x.2), boxes := p.boxes.map fun x => (x.1, cEs x.2), args := (frzArgsE p.frz A).map cSV }
theorem lkR_append (r : Res) : ∀ (l m : List (Res × RVE)), (∀ x ∈ l, reqb r x.1 = false) → lkR r (l ++ m) = lkR r m
  | [], m, _ => rfl
  | (q, x) :: l, m, h => by
    simp only [List.cons_append, lkR]
    rw [h (q, x) (List.mem_cons_self ..)]
    exact lkR_append r l m fun y hy => h y (List.mem_cons_of_mem _ hy)
theorem stOf_tmp (A : List SVE) (p : PSE) (t : Nat) : (stOf A p).get (.tmp t) = { v := lkT t p.slots } := by
  show lkR (.tmp t) (p.slots.map (fun x => (.tmp x.1, { v := x.2 })) ++ p.boxes.map fun x => (.box x.1, { v := .agg x.2 })) = _
  induction p.slots with
  | nil =>
    induction p.boxes with
    | nil => rfl
    | cons b r ih => exact ih
  | cons x r ih =>
    simp only [List.map_cons, List.cons_append, lkR, reqb, lkT]
    cases t == x.1 with
    | true => rfl
    | false => exact ih
theorem stOf_box (A : List SVE) (p : PSE) (k : Key) : (stOf A p).get (.box k) = { v := match lkB k p.boxes with | some cs => .agg cs | none => .undef } := by
  show lkR (.box k) (p.slots.map (fun x => (.tmp x.1, { v := x.2 })) ++ p.boxes.map fun x => (.box x.1, { v := .agg x.2 })) = _
  rw [lkR_append _ _ _ (by
    intro x hx
    obtain ⟨y, _, rfl⟩ := List.mem_map.1 hx
    rfl)]
  induction p.boxes with
  | nil => rfl
  | cons x r ih =>
    simp only [List.map_cons, lkR, reqb, lkB]
    cases keqb k x.1 with
    | true => rfl
    | false => exact ih
theorem cPS_tmp (A : List SVE) (p : PSE) (t : Nat) : ((cPS A p).st (.tmp t)).v = cSV (lkT t p.slots) := by
  show (lk t (p.slots.map fun x => (x.1, cSV x.2))).getD .undef = _
  induction p.slots with
  | nil => rfl
  | cons x r ih =>
    simp only [List.map_cons, lk, lkT]
    by_cases h : t = x.1
    · rw [if_pos h, show (t == x.1) = true by simpa using h]; rfl
    · rw [if_neg h, show (t == x.1) = false by simpa using h]; exact ih
theorem cPS_box (A : List SVE) (p : PSE) (k : Key) : ((cPS A p).st (.box k)).v = match lkB k p.boxes with | some cs => .agg (cEs cs) | none => .undef := by
  show (match lkK k (p.boxes.map fun x => (x.1, cEs x.2)) with | some cs => SV.agg cs | none => .undef) = _
  induction p.boxes with
  | nil => rfl
  | cons x r ih =>
    simp only [List.map_cons, lkK, lkB]
    by_cases h : k = x.1
    · rw [if_pos h, (keqb_iff k x.1).2 h]
    · rw [if_neg h, show keqb k x.1 = false by cases hb : keqb k x.1 <;> first | rfl | exact absurd ((keqb_iff k x.1).1 hb) h]; exact ih
theorem cPS_arg (A : List SVE) (p : PSE) (i : Nat) : ((cPS A p).st (.arg i)).v = cSV ((frzArgsE p.frz A).getD i .undef) := getD_map cSV _ i .undef
theorem cSt_stOf (A : List SVE) (p : PSE) : cSt (stOf A p) = (cPS A p).st := by
  have ext : ∀ (x y : RV), x.hv = y.hv → x.cv = y.cv → x.v = y.v → x = y := by
    intro x y h1 h2 h3; cases x; cases y; simp only at h1 h2 h3; subst h1 h2 h3; rfl
  funext r
  cases r with
  | tmp t =>
    refine ext _ _ ?_ ?_ ?_ <;> simp only [cSt, stOf_tmp, cRV]
    · rfl
    · rfl
    · exact (cPS_tmp A p t).symm
  | box k =>
    refine ext _ _ ?_ ?_ ?_ <;> simp only [cSt, stOf_box, cRV]
    · rfl
    · rfl
    · rw [cPS_box]; cases lkB k p.boxes <;> rfl
  | arg i =>
    refine ext _ _ rfl rfl ?_
    exact (cPS_arg A p i).symm
theorem frzArgsE_length : ∀ (l : List (Nat × Nat)) (A : List SVE), (frzArgsE l A).length = A.length
  | [], A => rfl
  | (i, j) :: r, A => by simp only [frzArgsE]; rw [frzArgsE_length r]; rw [lset_eq]; simp
theorem cPS_args_length (A : List SVE) (p : PSE) : (cPS A p).args.length = A.length := by simp [cPS, frzArgsE_length]
/-! ## The end of a region -/
def stlE (s : ESt) (bk : List Key) : E → E
  | .l (.bor r j hv cv k) t xs => match (s.get r).hv == hv && (s.get r).cv == cv with
    | true => .l (.bor r j 0 0 k) t xs
    | false => .dead
  | .n (.bor r j hv cv k) t o => match (s.get r).hv == hv && (s.get r).cv == cv with
    | true => .n (.bor r j 0 0 k) t o
    | false => .dead
  | .ea _ _ _ _ _ _ => .dead
  | .gone _ => .dead
  | .ptr k off => match bk.any (keqb k) with
    | true => .ptr k off
    | false => .dead
  | .clo f caps => match caps.all (fun p => bk.any (keqb p.1)) with
    | true => .clo f caps
    | false => .dead
  | c => c
def stlSVE (s : ESt) (bk : List Key) : SVE → SVE
  | .one c => .one (stlE s bk c)
  | .agg cs => .agg (cs.map (stlE s bk))
  | .tup vs => .tup (vs.map fun p => (p.1, p.2.map (stlE s bk)))
  | .undef => .undef
def finSlotsE (s : ESt) (bk : List Key) : List Nat → List (Nat × SVE)
  | [] => []
  | t :: ts => match (s.get (.tmp t)).v with
    | .undef => finSlotsE s bk ts
    | v => (t, stlSVE s bk v) :: finSlotsE s bk ts
def finBoxesE (s : ESt) (bk : List Key) : List Key → List (Key × List E)
  | [] => []
  | k :: ks => match (s.get (.box k)).v with
    | .agg cs => (k, cs.map (stlE s bk)) :: finBoxesE s bk ks
    | _ => finBoxesE s bk ks
def finE (s : ESt) (keys : List Nat) (bk : List Key) : PSE := { slots := finSlotsE s bk keys, boxes := finBoxesE s bk bk, frz := s.frz, dirty := s.dirty }
theorem any_keqb (k : Key) (bk : List Key) : bk.any (keqb k) = bk.contains k := by
  induction bk with
  | nil => rfl
  | cons q bk ih =>
    simp only [List.any_cons, List.contains_cons, ih]
    congr 1
    cases h : keqb k q with
    | true => rw [(keqb_iff k q).1 h]; simp
    | false => symm; simp only [beq_eq_false_iff_ne]; rintro rfl; rw [(keqb_iff k k).2 rfl] at h; cases h
theorem stlE_wk (s : ESt) (bk : List Key) (c : E) : WkC (stl (cSt s) bk (cE c)) (cE (stlE s bk c)) := by
  have bor : ∀ (r : Res) (j hv cv k : Nat) (t : Ty) (xs : List t.T), WkC (stl (cSt s) bk (C.bor r j hv cv t.w k (xs.map (encR t)))) (cE (match (s.get r).hv == hv && (s.get r).cv == cv with
    | true => E.l (.bor r j 0 0 k) t xs
    | false => .dead)) := by
    intro r j hv cv k t xs
    cases h : (s.get r).hv == hv && (s.get r).cv == cv with
    | false => exact .inr rfl
    | true =>
      simp only [Bool.and_eq_true, beq_iff_eq] at h
      left
      simp only [stl]
      rw [if_pos (show (cSt s r).hv = hv ∧ (cSt s r).cv = cv from h)]
      rfl
  cases c with
  | l m t xs =>
    cases m with
    | bor r j hv cv k => exact bor r j hv cv k t xs
    | _ => exact .inl rfl
  | n m t o =>
    cases m with
    | bor r j hv cv k =>
      cases o with
      | none =>
        simp only [stlE]
        cases (s.get r).hv == hv && (s.get r).cv == cv with
        | true => exact .inl rfl
        | false => exact .inr rfl
      | some xs =>
        have := bor r j hv cv k t xs
        simp only [stlE]
        revert this
        cases (s.get r).hv == hv && (s.get r).cv == cv with
        | true => exact fun h => h
        | false => exact fun h => h
    | _ => cases o <;> exact .inl rfl
  | ptr k off =>
    simp only [stlE, any_keqb, cE, stl]
    cases h : bk.contains k with
    | true => left; simp only [if_true]
    | false => exact .inr rfl
  | clo f caps =>
    have e : (caps.all fun p => bk.any (keqb p.1)) = caps.all fun p => bk.contains p.1 := by congr 1; funext p; exact any_keqb _ _
    simp only [stlE, e, cE, stl]
    cases h : caps.all fun p => bk.contains p.1 with
    | true => left; simp only [if_true]
    | false => exact .inr rfl
  | ea => exact .inr rfl
  | gone b => exact .inr rfl
  | _ => exact .inl rfl
theorem stlsE_wk (s : ESt) (bk : List Key) : ∀ (cs : List E), All2 WkC (stls (cSt s) bk (cEs cs)) (cEs (cs.map (stlE s bk)))
  | [] => trivial
  | c :: cs => ⟨stlE_wk s bk c, stlsE_wk s bk cs⟩
theorem stlSVE_wk (s : ESt) (bk : List Key) (v : SVE) : WkSV (stlSV (cSt s) bk (cSV v)) (cSV (stlSVE s bk v)) := by
  cases v with
  | one c => exact stlE_wk s bk c
  | agg cs => exact stlsE_wk s bk cs
  | tup vs =>
    show All2 _ (stlTup (cSt s) bk (cTup vs)) (cTup (vs.map fun p => (p.1, p.2.map (stlE s bk))))
    induction vs with
    | nil => trivial
    | cons p vs ih => exact ⟨⟨rfl, stlsE_wk s bk p.2⟩, ih⟩
  | undef => trivial
theorem lkT_finSlots (s : ESt) (bk : List Key) (t : Nat) : ∀ (ks : List Nat), lkT t (finSlotsE s bk ks) = if t ∈ ks then stlSVE s bk (s.get (.tmp t)).v else .undef
  | [] => rfl
  | u :: ks => by
    have ih := lkT_finSlots s bk t ks
    simp only [finSlotsE]
    by_cases htu : t = u
    · subst htu
      simp only [List.mem_cons, true_or, if_true]
      cases hv : (s.get (.tmp t)).v with
      | undef =>
        simp only
        rw [ih, hv]
        split <;> rfl
      | _ => simp [lkT]
    · have e : (t == u) = false := by simpa using htu
      have : lkT t (match (s.get (.tmp u)).v with | .undef => finSlotsE s bk ks | v => (u, stlSVE s bk v) :: finSlotsE s bk ks) = lkT t (finSlotsE s bk ks) := by
        cases (s.get (.tmp u)).v <;> simp [lkT, e]
      rw [this, ih]
      simp [htu]
theorem lkB_finBoxes (s : ESt) (bk : List Key) (k : Key) : ∀ (ks : List Key), lkB k (finBoxesE s bk ks) = if k ∈ ks then (match (s.get (.box k)).v with | .agg cs => some (cs.map (stlE s bk)) | _ => none) else none
  | [] => rfl
  | u :: ks => by
    have ih := lkB_finBoxes s bk k ks
    simp only [finBoxesE]
    by_cases htu : k = u
    · subst htu
      simp only [List.mem_cons, true_or, if_true]
      cases hv : (s.get (.box k)).v with
      | agg cs => simp only [lkB]; rw [(keqb_iff k k).2 rfl]
      | _ => simp only; rw [ih, hv]; split <;> rfl
    · have e : keqb k u = false := by cases h : keqb k u <;> first | rfl | exact absurd ((keqb_iff k u).1 h) htu
      have : lkB k (match (s.get (.box u)).v with | .agg cs => (u, cs.map (stlE s bk)) :: finBoxesE s bk ks | _ => finBoxesE s bk ks) = lkB k (finBoxesE s bk ks) := by
        cases (s.get (.box u)).v <;> simp [lkB, e]
      rw [this, ih]
      simp [htu]
/-- an argument that no end of a region changes -/
def argCOk (bk : List Key) : E → Bool
  | .i _ _ | .b _ | .tt | .ff | .s _ | .nil | .nul _ | .l .data _ _ | .l .own _ _ | .n .data _ _ | .n .own _ _ => true
  | .ptr k _ => bk.any (keqb k)
  | .clo _ caps => caps.all fun p => bk.any (keqb p.1)
  | _ => false
def argsOkE (bk : List Key) (A : List SVE) : Bool := A.all fun v => v.cells.all (argCOk bk)
theorem argC_stl {bk : List Key} {c : E} (h : argCOk bk c = true) (s : St) : stl s bk (cE c) = cE c := by
  cases c with
  | l m t xs => cases m <;> first | rfl | cases h
  | n m t o => cases m <;> cases o <;> first | rfl | cases h
  | ptr k off =>
    simp only [argCOk, any_keqb] at h
    simp only [cE, stl, h, if_true]
  | clo f caps =>
    have e : (caps.all fun p => bk.any (keqb p.1)) = caps.all fun p => bk.contains p.1 := by congr 1; funext p; exact any_keqb _ _
    simp only [argCOk, e] at h
    simp only [cE, stl, h, if_true]
  | ea => cases h
  | da => cases h
  | gone b => cases h
  | dead => rfl
  | _ => rfl
theorem argCs_stl {bk : List Key} {cs : List E} (h : cs.all (argCOk bk) = true) (s : St) : stls s bk (cEs cs) = cEs cs := by
  induction cs with
  | nil => rfl
  | cons c cs ih =>
    simp only [List.all_cons, Bool.and_eq_true] at h
    show stl s bk (cE c) :: stls s bk (cEs cs) = _
    rw [argC_stl h.1 s, ih h.2]
    rfl
theorem argSV_stl {bk : List Key} {v : SVE} (h : v.cells.all (argCOk bk) = true) (s : St) : stlSV s bk (cSV v) = cSV v := by
  cases v with
  | one c => simp only [SVE.cells, List.all_cons, List.all_nil, Bool.and_true] at h; show SV.one _ = _; rw [argC_stl h s]; rfl
  | agg cs => show SV.agg _ = _; rw [argCs_stl (cs := cs) h s]; rfl
  | tup vs =>
    show SV.tup (stlTup s bk (cTup vs)) = .tup (cTup vs)
    congr 1
    simp only [SVE.cells] at h
    induction vs with
    | nil => rfl
    | cons p vs ih =>
      simp only [List.flatMap_cons, List.all_append, Bool.and_eq_true] at h
      show (p.1, stls s bk (cEs p.2)) :: stlTup s bk (cTup vs) = _
      rw [argCs_stl h.1 s, ih h.2]
      rfl
  | undef => rfl
theorem frz1_ok {bk : List Key} {v : SVE} (h : v.cells.all (argCOk bk) = true) (j : Nat) : (frz1E v j).cells.all (argCOk bk) = true := by
  have setC : ∀ (v : SVE) (c : E), v.cells.all (argCOk bk) = true → argCOk bk c = true → (v.setCell j c).cells.all (argCOk bk) = true := by
    intro v c hv hc
    have lsetOk : ∀ (cs : List E) (j : Nat), cs.all (argCOk bk) = true → (lset cs j c).all (argCOk bk) = true := by
      intro cs
      induction cs with
      | nil => intro j h; simp [lset]
      | cons x cs ih =>
        intro j h
        simp only [List.all_cons, Bool.and_eq_true] at h
        cases j with
        | zero => simp only [lset, List.all_cons, Bool.and_eq_true]; exact ⟨hc, h.2⟩
        | succ j => simp only [lset, List.all_cons, Bool.and_eq_true]; exact ⟨h.1, ih j h.2⟩
    cases v with
    | one x => simp only [SVE.setCell]; split <;> first | (simp only [SVE.cells, List.all_cons, List.all_nil, Bool.and_true]; exact hc) | exact hv
    | agg cs => exact lsetOk cs j hv
    | tup vs =>
      simp only [SVE.setCell, SVE.cells] at hv ⊢
      induction vs generalizing j with
      | nil => rfl
      | cons p vs ih =>
        obtain ⟨b, cs⟩ := p
        simp only [List.flatMap_cons, List.all_append, Bool.and_eq_true] at hv
        simp only [setTupE]
        split
        · simp only [List.flatMap_cons, List.all_append, Bool.and_eq_true]; exact ⟨lsetOk cs j hv.1, hv.2⟩
        · simp only [List.flatMap_cons, List.all_append, Bool.and_eq_true]; exact ⟨hv.1, ih _ hv.2⟩
    | undef => exact hv
  unfold frz1E
  split
  · exact setC v _ h rfl
  · exact setC v _ h rfl
  · exact h
theorem frzArgs_ok {bk : List Key} : ∀ (l : List (Nat × Nat)) (A : List SVE), argsOkE bk A = true → argsOkE bk (frzArgsE l A) = true
  | [], A, h => h
  | (i, j) :: r, A, h => by
    simp only [frzArgsE]
    refine frzArgs_ok r _ ?_
    have hA : ∀ v ∈ A, v.cells.all (argCOk bk) = true := List.all_eq_true.1 h
    rw [lset_eq]
    refine List.all_eq_true.2 fun v hv => ?_
    rcases List.mem_or_eq_of_mem_set hv with hv | rfl
    · exact hA v hv
    · refine frz1_ok ?_ j
      rw [List.getD_eq_getElem?_getD]
      cases hi : A[i]? with
      | none => rfl
      | some x => exact hA x (List.mem_of_getElem? hi)
section
variable {K : Ctx} {A : List SVE} {a : Act} {w : World}
/-- the state behind a region -/
theorem finE_rel {s : ESt} (hargs : s.args = A) (hA : K.argv.size = A.length) {keys : List Nat} {bk : List Key} (hok : argsOkE bk A = true) (hin : ∀ k b, K.β0 k = some b → k ∈ bk) (h : Vs.Good K (cSt s) a w) : PRel K (cPS A (finE s keys bk)) a w := by
  obtain ⟨β, ω, Z, h⟩ := h
  obtain ⟨β', h'⟩ := h.fin keys bk hA.symm hin
  refine ⟨⟨β', ω, Z, Rel.weak h' (fun r => ⟨(ps_hv _ r).1.trans (ps_hv _ r).1.symm, (ps_hv _ r).2.trans (ps_hv _ r).2.symm⟩) (fun t => ?_) (fun k => ?_) fun i => ?_⟩, (cPS_args_length A _).trans hA.symm⟩
  · rw [cPS_tmp, fin_tmp]
    simp only [finE]
    rw [lkT_finSlots]
    split
    · exact stlSVE_wk s bk _
    · trivial
  · rw [cPS_box, fin_box]
    simp only [finE]
    rw [lkB_finBoxes]
    have hv : (cSt s (.box k)).v = cSV (s.get (.box k)).v := rfl
    split
    · cases hb : (s.get (.box k)).v with
      | agg cs => rw [hv, hb]; exact ⟨stlsE_wk s bk cs, fun h => by cases h⟩
      | _ => rw [hv, hb]; exact ⟨trivial, fun _ => rfl⟩
    · exact ⟨trivial, fun _ => rfl⟩
  · rw [cPS_arg, fin_arg]
    have hs : (cSt s (.arg i)).v = cSV ((frzArgsE s.frz A).getD i .undef) := by rw [← hargs]; rfl
    have hall := frzArgs_ok s.frz A hok
    split
    · rw [hs]
      refine (argSV_stl ?_ _).symm
      show (((frzArgsE s.frz A).getD i .undef).cells.all (argCOk bk)) = true
      rw [List.getD_eq_getElem?_getD]
      cases hi : (frzArgsE s.frz A)[i]? with
      | none => rfl
      | some x => exact List.all_eq_true.1 hall x (List.mem_of_getElem? hi)
    · rename_i hi
      show cSV _ = SV.undef
      rw [List.getD_eq_getElem?_getD, List.getElem?_eq_none (by rw [frzArgsE_length]; omega)]
      rfl
end
end Go.Ve
/- What stays untouched; two branches seen as one. -/
namespace Go.Ve
open Go.Vs
/-! ## Marks -/
abbrev Dirty := List (Res × Option (List Bool))
def tch (r : Res) (d : Dirty) : Bool := d.any fun e => reqb r e.1
def whole (r : Res) (d : Dirty) : Bool := d.any fun e => reqb r e.1 && e.2.isNone
def part (r : Res) (j : Nat) (d : Dirty) : Bool := d.any fun e => reqb r e.1 && (match e.2 with | some m => m.getD j false | none => true)
def nrm : E → E
  | .l (.bor q j _ _ k) t xs => .l (.bor q j 0 0 k) t xs
  | .n (.bor q j _ _ k) t o => .n (.bor q j 0 0 k) t o
  | c => c
theorem nrm_nrm (c : E) : nrm (nrm c) = nrm c := by
  cases c with
  | l m t xs => cases m <;> rfl
  | n m t o => cases m <;> rfl
  | _ => rfl
def WkE (c c' : E) : Prop := c' = c ∨ c' = nrm c ∨ c' = .dead
theorem WkE.same (c : E) : WkE c c := .inl rfl
theorem WkE.trans {a b c : E} (h : WkE a b) (h' : WkE b c) : WkE a c := by
  rcases h with rfl | rfl | rfl
  · exact h'
  · rcases h' with rfl | rfl | rfl
    · exact .inr (.inl rfl)
    · exact .inr (.inl (nrm_nrm a))
    · exact .inr (.inr rfl)
  · rcases h' with rfl | rfl | rfl <;> exact .inr (.inr rfl)
def usable : E → Bool
  | .dead => false
  | .l (.bor _ _ hv cv _) _ _ => hv == 0 && cv == 0
  | .n (.bor _ _ hv cv _) _ _ => hv == 0 && cv == 0
  | _ => true
theorem usable_nrm {c : E} (h : usable c = true) : nrm c = c := by
  cases c with
  | l m t xs =>
    cases m with
    | bor q j hv cv k => simp only [usable, Bool.and_eq_true, beq_iff_eq] at h; obtain ⟨rfl, rfl⟩ := h; rfl
    | _ => rfl
  | n m t xs =>
    cases m with
    | bor q j hv cv k => simp only [usable, Bool.and_eq_true, beq_iff_eq] at h; obtain ⟨rfl, rfl⟩ := h; rfl
    | _ => rfl
  | _ => rfl
theorem usable_wk {c a : E} (h : WkE c a) (ha : usable a = true) : a = nrm c := by
  rcases h with rfl | rfl | rfl
  · exact (usable_nrm ha).symm
  · rfl
  · cases ha
theorem usable_eq {c a b : E} (h : WkE c a) (h' : WkE c b) (ha : usable a = true) (hb : usable b = true) : a = b := (usable_wk h ha).trans (usable_wk h' hb).symm
def WkS : SVE → SVE → Prop
  | _, .undef => True
  | .one c, .one c' => WkE c c'
  | .agg cs, .agg cs' => All2 WkE cs cs'
  | .tup vs, .tup vs' => All2 (fun p q => p.1 = q.1 ∧ All2 WkE p.2 q.2) vs vs'
  | _, _ => False
theorem All2.same {α : Type} {R : α → α → Prop} (h : ∀ a, R a a) : ∀ (l : List α), All2 R l l
  | [] => trivial
  | a :: l => ⟨h a, All2.same h l⟩
theorem WkS.same (v : SVE) : WkS v v := by
  cases v with
  | one c => exact WkE.same c
  | agg cs => exact All2.same WkE.same cs
  | tup vs => exact All2.same (fun p => ⟨rfl, All2.same WkE.same p.2⟩) vs
  | undef => trivial
theorem WkS.trans {a b c : SVE} (h : WkS a b) (h' : WkS b c) : WkS a c := by
  cases c with
  | undef => trivial
  | one z => cases b <;> first | exact h'.elim | (cases a <;> first | exact h.elim | exact WkE.trans h h')
  | agg z => cases b <;> first | exact h'.elim | (cases a <;> first | exact h.elim | exact All2.comp (R := WkE) (S := WkE) (U := WkE) (fun _ _ _ h1 h2 => WkE.trans h1 h2) h h')
  | tup z => cases b <;> first | exact h'.elim | (cases a <;> first | exact h.elim | exact All2.comp (fun _ _ _ h1 h2 => ⟨h1.1.trans h2.1, All2.comp (R := WkE) (S := WkE) (U := WkE) (fun _ _ _ h1 h2 => WkE.trans h1 h2) h1.2 h2.2⟩) h h')
/-- the cells of a box that are not marked -/
def WkB (k : Key) (d : Dirty) (v v' : SVE) : Prop :=
  v' = .undef ∨ ∃ cs cs', v = .agg cs ∧ v' = .agg cs' ∧ cs.length = cs'.length ∧ ∀ j, part (.box k) j d = false → ∀ c', cs'[j]? = some c' → ∃ c, cs[j]? = some c ∧ WkE c c'
def Keep (d : Dirty) (s s' : ESt) : Prop :=
  (∀ t, tch (.tmp t) d = false → WkS (s.get (.tmp t)).v (s'.get (.tmp t)).v) ∧
  (∀ k, whole (.box k) d = false → WkB k d (s.get (.box k)).v (s'.get (.box k)).v)
theorem tch_append (r : Res) (l d : Dirty) : tch r (l ++ d) = (tch r l || tch r d) := by simp [tch, List.any_append]
theorem whole_append (r : Res) (l d : Dirty) : whole r (l ++ d) = (whole r l || whole r d) := by simp [whole, List.any_append]
theorem part_append (r : Res) (j : Nat) (l d : Dirty) : part r j (l ++ d) = (part r j l || part r j d) := by simp [part, List.any_append]
def IsBox (s : ESt) : Prop := ∀ k, (s.get (.box k)).v = .undef ∨ ∃ cs, (s.get (.box k)).v = .agg cs
theorem WkB.same {k : Key} {d : Dirty} {v : SVE} (h : v = .undef ∨ ∃ cs, v = .agg cs) : WkB k d v v := by
  rcases h with h | ⟨cs, h⟩
  · exact .inl h
  · exact .inr ⟨cs, cs, h, h, rfl, fun j _ c hc => ⟨c, hc, WkE.same c⟩⟩
theorem Keep.more {d l : Dirty} {s s' : ESt} (h : Keep d s s') : Keep (l ++ d) s s' := by
  refine ⟨fun t ht => h.1 t ?_, fun k hk => ?_⟩
  · rw [tch_append, Bool.or_eq_false_iff] at ht; exact ht.2
  · rw [whole_append, Bool.or_eq_false_iff] at hk
    rcases h.2 k hk.2 with h | ⟨cs, cs', g1, g2, g3, g4⟩
    · exact .inl h
    · refine .inr ⟨cs, cs', g1, g2, g3, fun j hj => g4 j ?_⟩
      rw [part_append, Bool.or_eq_false_iff] at hj
      exact hj.2
theorem Keep.trans {d : Dirty} {s s1 s2 : ESt} (h : Keep d s s1) (h' : Keep d s1 s2) : Keep d s s2 := by
  refine ⟨fun t ht => WkS.trans (h.1 t ht) (h'.1 t ht), fun k hk => ?_⟩
  rcases h'.2 k hk with g | ⟨ds, ds', f1, f2, f3, f4⟩
  · exact .inl g
  · rcases h.2 k hk with g | ⟨cs, cs', g1, g2, g3, g4⟩
    · rw [g] at f1; cases f1
    · rw [g2] at f1
      cases f1
      refine .inr ⟨cs, ds', g1, f2, g3.trans f3, fun j hj c' hc' => ?_⟩
      obtain ⟨c1, e1, e2⟩ := f4 j hj c' hc'
      obtain ⟨c0, e3, e4⟩ := g4 j hj c1 e1
      exact ⟨c0, e3, WkE.trans e4 e2⟩
/-! ## A region leaves the rest as it is -/
theorem reqb_ne {r q : Res} (h : reqb q r = false) : q ≠ r := by rintro rfl; rw [(reqb_iff q q).2 rfl] at h; cases h
theorem Keep.of_get {d : Dirty} {s s' : ESt} (hb : IsBox s) (h : ∀ r, r.isArg = false → tch r d = false → s'.get r = s.get r) (hp : ∀ k, whole (.box k) d = false → tch (.box k) d = true → WkB k d (s.get (.box k)).v (s'.get (.box k)).v) : Keep d s s' := by
  refine ⟨fun t ht => by rw [h (.tmp t) rfl ht]; exact WkS.same _, fun k hk => ?_⟩
  cases ht : tch (.box k) d with
  | false => rw [h (.box k) rfl ht]; exact WkB.same (hb k)
  | true => exact hp k hk ht
theorem overE_get : ∀ (cs : List E) (os : List (Option E)) (j : Nat), (os.map Option.isSome).getD j false = false → (overE cs os)[j]? = cs[j]?
  | [], os, j, _ => by simp [overE]
  | c :: cs, [], j, _ => by simp [overE]
  | c :: cs, o :: os, 0, h => by
    cases o with
    | none => simp [overE]
    | some x => simp at h
  | c :: cs, o :: os, j + 1, h => by
    simp only [overE, List.getElem?_cons_succ]
    exact overE_get cs os j (by simpa using h)
theorem overE_length : ∀ (cs : List E) (os : List (Option E)), (overE cs os).length = cs.length
  | [], os => by simp [overE]
  | c :: cs, [] => by simp [overE]
  | c :: cs, o :: os => by simp [overE, overE_length cs os]
def Step (s s' : ESt) : Prop := IsBox s' ∧ s'.args = s.args ∧ ∃ l, s'.dirty = l ++ s.dirty ∧ Keep s'.dirty s s'
theorem Step.trans {s s1 s2 : ESt} (h : Step s s1) (h' : Step s1 s2) : Step s s2 := by
  obtain ⟨b1, a1, l1, e1, k1⟩ := h
  obtain ⟨b2, a2, l2, e2, k2⟩ := h'
  refine ⟨b2, a2.trans a1, l2 ++ l1, by rw [e2, e1, List.append_assoc], Keep.trans ?_ k2⟩
  rw [e2]
  exact k1.more
theorem Step.same {s : ESt} (h : IsBox s) : Step s s := ⟨h, rfl, [], rfl, Keep.of_get h (fun _ _ _ => rfl) fun k _ _ => WkB.same (h k)⟩
theorem Step.put {s : ESt} (h : IsBox s) {r : Res} {x : RVE} (hr : r.isArg = false) (hx : (∃ t, r = .tmp t) ∨ ∃ cs, x.v = .agg cs) : Step s (s.put r x) := by
  refine ⟨fun k => ?_, rfl, [(r, none)], rfl, Keep.of_get h (fun q _ hd => ?_) fun k h1 h2 => ?_⟩
  · rw [get_put s x hr]
    split
    · rename_i hk
      rcases hx with ⟨t, rfl⟩ | ⟨cs, hx⟩
      · cases hk
      · exact .inr ⟨cs, hx⟩
    · exact h k
  · rw [get_put s x hr, if_neg]
    have : tch q ((r, none) :: s.dirty) = (reqb q r || tch q s.dirty) := rfl
    have hd : tch q ((r, none) :: s.dirty) = false := hd
    rw [this, Bool.or_eq_false_iff] at hd
    exact reqb_ne hd.1
  · rw [get_put s x hr]
    have h1 : whole (.box k) ((r, none) :: s.dirty) = false := h1
    have e1 : whole (.box k) ((r, none) :: s.dirty) = ((reqb (.box k) r && true) || whole (.box k) s.dirty) := rfl
    rw [e1, Bool.or_eq_false_iff, Bool.and_true] at h1
    rw [if_neg (reqb_ne h1.1)]
    exact WkB.same (h k)
theorem Step.know {s : ESt} (h : IsBox s) (r : Res) (b : Bool) : Step s (s.know r b) := by
  cases r with
  | tmp t =>
    have := Step.put (s := s) h (r := .tmp t) (x := { lkR (.tmp t) s.m with v := .one (kb b) }) rfl (.inl ⟨t, rfl⟩)
    exact this
  | _ => exact Step.same h
theorem Step.frz {s : ESt} (h : IsBox s) (i j : Nat) : Step s { s with frz := s.frz ++ [(i, j)], dirty := (.arg i, none) :: s.dirty } :=
  ⟨fun k => h k, rfl, [(.arg i, none)], rfl, Keep.of_get h (fun q hq _ => by cases q <;> first | rfl | cases hq) fun k _ _ => WkB.same (h k)⟩
theorem Step.wr {s : ESt} (h : IsBox s) (k : Key) (os : List (Option E)) : Step s (s.wr k os) := by
  rcases h k with hu | ⟨cs, hcs⟩
  · -- nothing there
    have hu' : (lkR (.box k) s.m).v = .undef := hu
    have hg : ∀ q, q.isArg = false → ((s.wr k os).get q).v = (s.get q).v ∧ (reqb q (.box k) = false → (s.wr k os).get q = s.get q) := by
      intro q hq
      have key : ∀ q, lkR q (s.wr k os).m = if q = .box k then { hv := (lkR (.box k) s.m).hv + 1, cv := (lkR (.box k) s.m).cv, v := match (lkR (.box k) s.m).v with | .agg cs => .agg (overE cs os) | v => v } else lkR q s.m := fun q => lkR_updR (.box k) _ q s.m
      have : (s.wr k os).get q = lkR q (s.wr k os).m := by cases q <;> first | rfl | cases hq
      have e2 : s.get q = lkR q s.m := by cases q <;> first | rfl | cases hq
      rw [this, key, e2]
      split
      · rename_i e; subst e; rw [hu']; exact ⟨rfl, fun h => by rw [(reqb_iff _ _).2 rfl] at h; cases h⟩
      · exact ⟨rfl, fun _ => rfl⟩
    refine ⟨fun q => ?_, rfl, [(.box k, some (os.map Option.isSome))], rfl, Keep.of_get h (fun q hq hd => ?_) fun q h1 h2 => ?_⟩
    · rw [(hg (.box q) rfl).1]; exact h q
    · have e1 : tch q (s.wr k os).dirty = (reqb q (.box k) || tch q s.dirty) := rfl
      rw [e1, Bool.or_eq_false_iff] at hd
      exact (hg q hq).2 hd.1
    · rw [(hg (.box q) rfl).1]; exact WkB.same (h q)
  · refine ⟨fun q => ?_, rfl, [(.box k, some (os.map Option.isSome))], rfl, Keep.of_get h (fun q _ hd => ?_) fun q h1 h2 => ?_⟩
    · rw [get_wr s k os _ hcs]
      split
      · exact .inr ⟨_, rfl⟩
      · exact h q
    · rw [get_wr s k os _ hcs, if_neg]
      have e1 : tch q (s.wr k os).dirty = (reqb q (.box k) || tch q s.dirty) := rfl
      rw [e1, Bool.or_eq_false_iff] at hd
      exact reqb_ne hd.1
    · rw [get_wr s k os _ hcs]
      split
      · rename_i e
        cases e
        refine .inr ⟨cs, overE cs os, hcs, rfl, (overE_length cs os).symm, fun j hj c' hc' => ⟨c', ?_, WkE.same c'⟩⟩
        have e1 : part (.box k) j (s.wr k os).dirty = ((reqb (.box k) (.box k) && (os.map Option.isSome).getD j false) || part (.box k) j s.dirty) := rfl
        rw [e1, Bool.or_eq_false_iff, (reqb_iff _ _).2 rfl, Bool.true_and] at hj
        rw [← overE_get cs os j hj.1]
        exact hc'
      · exact WkB.same (h q)
theorem both_step {α : Type} (p : PE α) : ∀ (s : ESt), IsBox s → (p.both s).each fun x => Step s x.2.1 := by
  induction p with
  | ret a => intro s h; exact Step.same h
  | fail => intro s h; trivial
  | br c t e iht ihe => intro s h; exact ⟨iht s h, ihe s h⟩
  | call d o k ih => intro s h; exact fun x => ih x s h
  | get r k ih => intro s h; simp only [PE.both, Tr.each_map]; exact ih _ s h
  | put r x k ih =>
    intro s h
    simp only [PE.both]
    cases hp : putOk r x with
    | false => trivial
    | true =>
      simp only [Tr.each_map]
      have hr : r.isArg = false := by cases r <;> first | rfl | (simp [putOk] at hp)
      have hx : (∃ t, r = .tmp t) ∨ ∃ cs, x.v = .agg cs := by
        cases r with
        | tmp t => exact .inl ⟨t, rfl⟩
        | box k =>
          cases hv : x.v with
          | agg cs => exact .inr ⟨cs, rfl⟩
          | _ => simp [putOk, hv] at hp
        | arg i => cases hr
      have h1 := Step.put h hr hx
      exact Tr.each_mono (fun y hy => Step.trans h1 hy) (ih _ h1.1)
  | frz i j k ih =>
    intro s h
    simp only [PE.both, Tr.each_map]
    have h1 := Step.frz h i j
    exact Tr.each_mono (fun y hy => Step.trans h1 hy) (ih _ h1.1)
  | know r b k ih =>
    intro s h
    have h1 := Step.know h r b
    exact Tr.each_mono (fun y hy => Step.trans h1 hy) (ih _ h1.1)
  | wr q os k ih =>
    intro s h
    simp only [PE.both, Tr.each_map]
    have h1 := Step.wr h q os
    exact Tr.each_mono (fun y hy => Step.trans h1 hy) (ih _ h1.1)
theorem runE_step (cfg : ECfg) (ops : Array Oper) : ∀ (l : List Oper) (s : ESt), IsBox s → (runE cfg ops l s).each fun x => Step s x.1
  | [], s, h => Step.same h
  | o :: r, s, h => by
    simp only [runE]
    rw [Tr.each_bind]
    refine Tr.each_mono ?_ (both_step (stepE cfg ops o) s h)
    rintro ⟨a, s', f, g⟩ h1
    rw [Tr.each_bind]
    refine Tr.each_mono ?_ (runE_step cfg ops r s' h1.1)
    rintro ⟨s'', l⟩ h2
    exact Step.trans h1 h2
/-! ## Between regions -/
theorem isBox_stOf (A : List SVE) (p : PSE) : IsBox (stOf A p) := by
  intro k
  rw [stOf_box]
  cases lkB k p.boxes with
  | none => exact .inl rfl
  | some cs => exact .inr ⟨cs, rfl⟩
theorem stlE_wkE (s : ESt) (bk : List Key) (c : E) : WkE c (stlE s bk c) := by
  have dd : ∀ (b : Bool) (x y : E), (x = y ∨ x = nrm y) → WkE y (match b with | true => x | false => .dead) := by
    intro b x y h
    cases b with
    | true => rcases h with rfl | rfl <;> first | exact .inl rfl | exact .inr (.inl rfl)
    | false => exact .inr (.inr rfl)
  cases c with
  | l m t xs => cases m <;> first | exact .inl rfl | exact dd _ _ _ (.inr rfl)
  | n m t xs => cases m <;> first | exact .inl rfl | exact dd _ _ _ (.inr rfl)
  | ptr k off => exact dd _ _ _ (.inl rfl)
  | clo f caps => exact dd _ _ _ (.inl rfl)
  | ea => exact .inr (.inr rfl)
  | gone b => exact .inr (.inr rfl)
  | _ => exact .inl rfl
theorem stlsE_wkE (s : ESt) (bk : List Key) : ∀ (cs : List E), All2 WkE cs (cs.map (stlE s bk))
  | [] => trivial
  | c :: cs => ⟨stlE_wkE s bk c, stlsE_wkE s bk cs⟩
theorem stlSVE_wkS (s : ESt) (bk : List Key) (v : SVE) : WkS v (stlSVE s bk v) := by
  cases v with
  | one c => exact stlE_wkE s bk c
  | agg cs => exact stlsE_wkE s bk cs
  | tup vs =>
    show All2 _ vs (vs.map fun p => (p.1, p.2.map (stlE s bk)))
    induction vs with
    | nil => trivial
    | cons p vs ih => exact ⟨⟨rfl, stlsE_wkE s bk p.2⟩, ih⟩
  | undef => trivial
theorem finE_keep (A : List SVE) (s : ESt) (hb : IsBox s) (keys : List Nat) (bk : List Key) (d : Dirty) : Keep d s (stOf A (finE s keys bk)) := by
  refine ⟨fun t _ => ?_, fun k _ => ?_⟩
  · rw [stOf_tmp]
    simp only [finE]
    rw [lkT_finSlots]
    split
    · exact stlSVE_wkS s bk _
    · trivial
  · rw [stOf_box]
    simp only [finE]
    rw [lkB_finBoxes]
    rcases hb k with h | ⟨cs, h⟩
    · rw [h]
      left
      by_cases hk : k ∈ bk
      · rw [if_pos hk]
      · rw [if_neg hk]
    · rw [h]
      by_cases hk : k ∈ bk
      · rw [if_pos hk]
        refine .inr ⟨cs, _, rfl, rfl, by simp, fun j _ c' hc' => ?_⟩
        rw [List.getElem?_map] at hc'
        cases hc : cs[j]? with
        | none => rw [hc] at hc'; cases hc'
        | some c => rw [hc] at hc'; cases hc'; exact ⟨c, rfl, stlE_wkE s bk c⟩
      · rw [if_neg hk]; exact .inl rfl
end Go.Ve
/- Two branches seen as one. -/
namespace Go.Ve
open Go.Vs
def mergeBool (c : Bool) (a b : E) : E :=
  match a, b with
  | .tt, .tt => .tt
  | .ff, .ff => .ff
  | .tt, .ff => .b c
  | .ff, .tt => .b (!c)
  | .tt, .b y => .b (c || y)
  | .b x, .ff => .b (c && x)
  | .ff, .b y => .b (!c && y)
  | .b x, .tt => .b (!c || x)
  | .b x, .b y => .b (if c = true then x else y)
  | _, _ => .dead
def mergeE (c : Bool) (a b : E) : E :=
  match a, b with
  | .i k a, .i k' b => if k = k' then .i k (if c = true then a else b) else .dead
  | .s a, .s b => .s (if c = true then a else b)
  | .l m t xs, .l m' t' ys => if m = m' then (if h : t' = t then .l m t (if c = true then xs else h ▸ ys) else .dead) else .dead
  | .n m t o, .n m' t' o' => if m = m' then (if h : t' = t then .n m t (if c = true then o else h ▸ o') else .dead) else .dead
  | .n m t o, .l m' t' ys => if m = m' then (if h : t' = t then .n m t (if c = true then o else some (h ▸ ys)) else .dead) else .dead
  | .l m t xs, .n m' t' o' => if m = m' then (if h : t' = t then .n m t (if c = true then some xs else h ▸ o') else .dead) else .dead
  | .n m t o, .nil => .n m t (if c = true then o else none)
  | .nil, .n m t o => .n m t (if c = true then none else o)
  | .l m t xs, .nil => .n m t (if c = true then some xs else none)
  | .nil, .l m t xs => .n m t (if c = true then none else some xs)
  | .nil, .nil => .nil
  | .nul k, .nul k' => if k = k' then .nul k else .dead
  | .ptr k o, .ptr k' o' => if k = k' ∧ o = o' then .ptr k o else .dead
  | .clo f l, .clo f' l' => if f = f' ∧ l = l' then .clo f l else .dead
  | a, b => mergeBool c a b
theorem mergeBool_true (a b : E) : WkC (cE a) (cE (mergeBool true a b)) := by
  unfold mergeBool
  split <;> first | exact .inl rfl | exact .inr rfl
theorem mergeBool_false (a b : E) : WkC (cE b) (cE (mergeBool false a b)) := by
  unfold mergeBool
  split <;> first | exact .inl rfl | exact .inr rfl
theorem mergeE_true (a b : E) : WkC (cE a) (cE (mergeE true a b)) := by
  unfold mergeE
  split
  · split <;> first | exact .inl rfl | exact .inr rfl
  · exact .inl rfl
  · split
    · split <;> first | exact .inl rfl | exact .inr rfl
    · exact .inr rfl
  · split
    · split <;> first | exact .inl rfl | exact .inr rfl
    · exact .inr rfl
  · split
    · split <;> first | exact .inl rfl | exact .inr rfl
    · exact .inr rfl
  · split
    · split <;> first | exact .inl rfl | exact .inr rfl
    · exact .inr rfl
  · exact .inl rfl
  · exact .inl rfl
  · exact .inl rfl
  · exact .inl rfl
  · exact .inl rfl
  · split <;> first | exact .inl rfl | exact .inr rfl
  · split <;> first | exact .inl rfl | exact .inr rfl
  · split <;> first | exact .inl rfl | exact .inr rfl
  · exact mergeBool_true _ _
theorem mergeE_false (a b : E) : WkC (cE b) (cE (mergeE false a b)) := by
  unfold mergeE
  split
  · split
    · rename_i h; subst h; exact .inl rfl
    · exact .inr rfl
  · exact .inl rfl
  · split
    · rename_i h; subst h
      split
      · rename_i h; subst h; exact .inl rfl
      · exact .inr rfl
    · exact .inr rfl
  · split
    · rename_i h; subst h
      split
      · rename_i h; subst h; exact .inl rfl
      · exact .inr rfl
    · exact .inr rfl
  · split
    · rename_i h; subst h
      split
      · rename_i h; subst h; exact .inl rfl
      · exact .inr rfl
    · exact .inr rfl
  · split
    · rename_i h; subst h
      split
      · rename_i h; subst h; exact .inl rfl
      · exact .inr rfl
    · exact .inr rfl
  · exact .inl rfl
  · exact .inl rfl
  · exact .inl rfl
  · exact .inl rfl
  · exact .inl rfl
  · split
    · rename_i h; subst h; exact .inl rfl
    · exact .inr rfl
  · split
    · rename_i h; obtain ⟨rfl, rfl⟩ := h; exact .inl rfl
    · exact .inr rfl
  · split
    · rename_i h; obtain ⟨rfl, rfl⟩ := h; exact .inl rfl
    · exact .inr rfl
  · exact mergeBool_false _ _
def wkE (a b : E) : E := match usable a && usable b with | true => a | false => .dead
def zipE (f : E → E → E) : List E → List E → List E
  | a :: as, b :: bs => f a b :: zipE f as bs
  | _, _ => []
def zipS (f : E → E → E) (v u : SVE) : SVE :=
  match v, u with
  | .one a, .one b => .one (f a b)
  | .agg as, .agg bs => match as.length == bs.length with
    | true => .agg (zipE f as bs)
    | false => .undef
  | _, _ => .undef
theorem wkE_left (a b : E) : WkE a (wkE a b) := by
  unfold wkE; split <;> first | exact .inl rfl | exact .inr (.inr rfl)
theorem wkE_leftC (a b : E) : WkC (cE a) (cE (wkE a b)) := by
  unfold wkE; split <;> first | exact .inl rfl | exact .inr rfl
theorem wkE_right {c a b : E} (h : WkE c a) (h' : WkE c b) : WkC (cE b) (cE (wkE a b)) := by
  unfold wkE
  split
  · rename_i hu
    simp only [Bool.and_eq_true] at hu
    rw [usable_eq h h' hu.1 hu.2]
    exact .inl rfl
  · exact .inr rfl
theorem zipE_left {f : E → E → E} {R : E → E → Prop} (hf : ∀ a b, R a (f a b)) : ∀ (as bs : List E), as.length = bs.length → All2 R as (zipE f as bs)
  | [], [], _ => trivial
  | a :: as, b :: bs, h => ⟨hf a b, zipE_left hf as bs (by simpa using h)⟩
  | [], _ :: _, h => by simp at h
  | _ :: _, [], h => by simp at h
theorem zipE_right {f : E → E → E} {R : E → E → Prop} (hf : ∀ a b, R b (f a b)) : ∀ (as bs : List E), as.length = bs.length → All2 R bs (zipE f as bs)
  | [], [], _ => trivial
  | a :: as, b :: bs, h => ⟨hf a b, zipE_right hf as bs (by simpa using h)⟩
  | [], _ :: _, h => by simp at h
  | _ :: _, [], h => by simp at h
theorem All2.mapC {R : C → C → Prop} : ∀ {as bs : List E}, All2 (fun a b => R (cE a) (cE b)) as bs → All2 R (cEs as) (cEs bs)
  | [], [], _ => trivial
  | _ :: _, _ :: _, h => ⟨h.1, All2.mapC h.2⟩
theorem zipS_left {f : E → E → E} (hf : ∀ a b, WkC (cE a) (cE (f a b))) (v u : SVE) : WkSV (cSV v) (cSV (zipS f v u)) := by
  unfold zipS
  split
  · exact hf _ _
  · split
    · rename_i h; exact All2.mapC (zipE_left hf _ _ (by simpa using h))
    · trivial
  · trivial
theorem zipS_leftE {f : E → E → E} (hf : ∀ a b, WkE a (f a b)) (v u : SVE) : WkS v (zipS f v u) := by
  unfold zipS
  split
  · exact hf _ _
  · split
    · rename_i h; exact zipE_left hf _ _ (by simpa using h)
    · trivial
  · trivial
theorem zipS_right {f : E → E → E} (hf : ∀ a b, WkC (cE b) (cE (f a b))) (v u : SVE) : WkSV (cSV u) (cSV (zipS f v u)) := by
  unfold zipS
  split
  · exact hf _ _
  · split
    · rename_i h; exact All2.mapC (zipE_right hf _ _ (by simpa using h))
    · trivial
  · trivial
theorem zipE_wk {cs : List E} : ∀ {as bs : List E}, All2 WkE cs as → All2 WkE cs bs → All2 (fun b x => WkC (cE b) (cE x)) bs (zipE wkE as bs) := by
  induction cs with
  | nil =>
    intro as bs h1 h2
    cases as <;> cases bs <;> first | trivial | exact h1.elim | exact h2.elim
  | cons c cs ih =>
    intro as bs h1 h2
    cases as with
    | nil => exact h1.elim
    | cons a as =>
      cases bs with
      | nil => exact h2.elim
      | cons b bs => exact ⟨wkE_right h1.1 h2.1, ih h1.2 h2.2⟩
theorem zipS_wk {v0 v u : SVE} (h : WkS v0 v) (h' : WkS v0 u) : WkSV (cSV u) (cSV (zipS wkE v u)) := by
  unfold zipS
  split
  · cases v0 with
    | one c => exact wkE_right h h'
    | _ => exact h.elim
  · split
    · cases v0 with
      | agg cs => exact All2.mapC (zipE_wk h h')
      | _ => exact h.elim
    · trivial
  · trivial
/-! ## States -/
def mergeSlots (c : Bool) (d : Dirty) (q : PSE) : List (Nat × SVE) → List (Nat × SVE)
  | [] => []
  | (t, v) :: r => (t, match tch (.tmp t) d with
    | true => zipS (mergeE c) v (lkT t q.slots)
    | false => zipS wkE v (lkT t q.slots)) :: mergeSlots c d q r
def mergeCells (c : Bool) (d : Dirty) (k : Key) : Nat → List E → List E → List E
  | j, a :: as, b :: bs => (match whole (.box k) d || part (.box k) j d with
    | true => mergeE c a b
    | false => wkE a b) :: mergeCells c d k (j + 1) as bs
  | _, _, _ => []
def mergeBoxes (c : Bool) (d : Dirty) (q : PSE) : List (Key × List E) → List (Key × List E)
  | [] => []
  | (k, as) :: r => (k, match lkB k q.boxes with
    | some bs => (match as.length == bs.length with
      | true => mergeCells c d k 0 as bs
      | false => as.map fun _ => .dead)
    | none => as.map fun _ => .dead) :: mergeBoxes c d q r
def okBk (A : List SVE) (inb bk : List Key) : Bool := argsOkE bk A && inb.all fun k => bk.any (keqb k)
def hasB (k : Key) (p : PSE) : Bool := match lkB k p.boxes with | some _ => true | none => false
def sameLen (bk : List Key) (p q : PSE) : Bool := bk.all fun k => match lkB k p.boxes, lkB k q.boxes with
  | some as, some bs => as.length == bs.length
  | _, _ => false
def merge (A : List SVE) (inb : List Key) (c : Bool) (p q : PSE) : Option PSE :=
  let bk := (p.boxes.map (·.1)).filter fun k => hasB k q
  match decide (p.frz = q.frz) && okBk A inb bk && sameLen bk p q with
  | true =>
    let d := p.dirty ++ q.dirty
    let p1 := finE (stOf A p) (p.slots.map (·.1)) bk
    let q1 := finE (stOf A q) (q.slots.map (·.1)) bk
    some { slots := mergeSlots c d q1 p1.slots, boxes := mergeBoxes c d q1 p1.boxes, frz := p.frz, dirty := d }
  | false => none
theorem lkT_merge (c : Bool) (d : Dirty) (q : PSE) (t : Nat) : ∀ (l : List (Nat × SVE)), lkT t (mergeSlots c d q l) = match tch (.tmp t) d with
    | true => zipS (mergeE c) (lkT t l) (lkT t q.slots)
    | false => zipS wkE (lkT t l) (lkT t q.slots)
  | [] => by simp only [mergeSlots, lkT]; split <;> (unfold zipS; rfl)
  | (u, v) :: r => by
    simp only [mergeSlots, lkT]
    cases h : t == u with
    | true => have : t = u := by simpa using h
              subst this; rfl
    | false => exact lkT_merge c d q t r
theorem lkB_merge (c : Bool) (d : Dirty) (q : PSE) (k : Key) : ∀ (l : List (Key × List E)), lkB k (mergeBoxes c d q l) = match lkB k l with
    | some as => some (match lkB k q.boxes with
      | some bs => (match as.length == bs.length with
        | true => mergeCells c d k 0 as bs
        | false => as.map fun _ => .dead)
      | none => as.map fun _ => .dead)
    | none => none
  | [] => rfl
  | (u, v) :: r => by
    simp only [mergeBoxes, lkB]
    cases h : keqb k u with
    | true => have := (keqb_iff k u).1 h
              subst this; rfl
    | false => exact lkB_merge c d q k r
theorem mergeCells_length (c : Bool) (d : Dirty) (k : Key) : ∀ (as bs : List E) (j : Nat), as.length = bs.length → (mergeCells c d k j as bs).length = as.length
  | [], [], _, _ => rfl
  | a :: as, b :: bs, j, h => by simp [mergeCells, mergeCells_length c d k as bs (j + 1) (by simpa using h)]
  | [], _ :: _, _, h => by simp at h
  | _ :: _, [], _, h => by simp at h
theorem mergeCells_left {c : Bool} (hc : c = true) (d : Dirty) (k : Key) : ∀ (as bs : List E) (j : Nat), as.length = bs.length → All2 (fun a x => WkC (cE a) (cE x)) as (mergeCells c d k j as bs)
  | [], [], _, _ => trivial
  | a :: as, b :: bs, j, h => by
    refine ⟨?_, mergeCells_left hc d k as bs (j + 1) (by simpa using h)⟩
    split
    · subst hc; exact mergeE_true a b
    · exact wkE_leftC a b
  | [], _ :: _, _, h => by simp at h
  | _ :: _, [], _, h => by simp at h
theorem mergeCells_right {c : Bool} (hc : c = false) (d : Dirty) (k : Key) : ∀ (as bs : List E) (j : Nat), as.length = bs.length → (∀ i, whole (.box k) d = false → part (.box k) (j + i) d = false → ∀ a b, as[i]? = some a → bs[i]? = some b → ∃ x, WkE x a ∧ WkE x b) → All2 (fun b x => WkC (cE b) (cE x)) bs (mergeCells c d k j as bs)
  | [], [], _, _, _ => trivial
  | a :: as, b :: bs, j, h, hk => by
    refine ⟨?_, mergeCells_right hc d k as bs (j + 1) (by simpa using h) fun i h1 h2 x y hx hy => hk (i + 1) h1 (by rw [show j + (i + 1) = j + 1 + i by omega]; exact h2) x y (by simpa using hx) (by simpa using hy)⟩
    split
    · subst hc; exact mergeE_false a b
    · rename_i hw
      rw [Bool.or_eq_false_iff] at hw
      obtain ⟨x, h1, h2⟩ := hk 0 hw.1 (by simpa using hw.2) a b rfl rfl
      exact wkE_right h1 h2
  | [], _ :: _, _, h, _ => by simp at h
  | _ :: _, [], _, h, _ => by simp at h
theorem mergeCells_get (c : Bool) (d : Dirty) (k : Key) : ∀ (as bs : List E) (j i : Nat) (x : E), as.length = bs.length → whole (.box k) d = false → part (.box k) (j + i) d = false → (mergeCells c d k j as bs)[i]? = some x → ∃ a, as[i]? = some a ∧ WkE a x
  | [], [], _, i, x, _, _, _, h => by simp [mergeCells] at h
  | a :: as, b :: bs, j, 0, x, hl, hw, hp, h => by
    simp only [mergeCells, List.getElem?_cons_zero, Option.some.injEq] at h
    rw [show j + 0 = j by omega] at hp
    rw [hw, hp] at h
    subst h
    exact ⟨a, rfl, wkE_left a b⟩
  | a :: as, b :: bs, j, i + 1, x, hl, hw, hp, h => by
    simp only [mergeCells, List.getElem?_cons_succ] at h ⊢
    exact mergeCells_get c d k as bs (j + 1) i x (by simpa using hl) hw (by rw [show j + 1 + i = j + (i + 1) by omega]; exact hp) h
  | [], _ :: _, _, _, _, h, _, _, _ => by simp at h
  | _ :: _, [], _, _, _, h, _, _, _ => by simp at h
theorem lkB_some_of {k : Key} {l : List (Key × List E)} (h : k ∈ l.map (·.1)) : ∃ cs, lkB k l = some cs := by
  induction l with
  | nil => simp at h
  | cons x r ih =>
    simp only [List.map_cons, List.mem_cons] at h
    simp only [lkB]
    cases hk : keqb k x.1 with
    | true => exact ⟨_, rfl⟩
    | false => exact ih (h.resolve_left fun e => by rw [(keqb_iff k x.1).2 e] at hk; cases hk)
theorem cells_none {cs cs' : List E} (h : All2 (fun a x => WkC (cE a) (cE x)) cs cs') : All2 WkC (cEs cs) (cEs cs') := All2.mapC h
section
variable {K : Ctx} {A : List SVE} {inb : List Key} {a : Act} {w : World} {p0 : ESt} {c : Bool} {p q m : PSE}
structure FOK (K : Ctx) (A : List SVE) (inb : List Key) : Prop where
  size : K.argv.size = A.length
  keys : ∀ k b, K.β0 k = some b → k ∈ inb
theorem FOK.bk (hF : FOK K A inb) {bk : List Key} (h : okBk A inb bk = true) : argsOkE bk A = true ∧ ∀ k b, K.β0 k = some b → k ∈ bk := by
  simp only [okBk, Bool.and_eq_true] at h
  refine ⟨h.1, fun k b hk => ?_⟩
  have := List.all_eq_true.1 h.2 k (hF.keys k b hk)
  rw [any_keqb] at this
  simpa using this
theorem PRel.finE (hF : FOK K A inb) {bk : List Key} (hbk : okBk A inb bk = true) (keys : List Nat) (h : PRel K (cPS A p) a w) : PRel K (cPS A (finE (stOf A p) keys bk)) a w := by
  obtain ⟨h1, h2⟩ := hF.bk hbk
  refine finE_rel rfl hF.size h1 h2 ?_
  rw [cSt_stOf]
  exact h.1
theorem Rel.toPRel {p p' : PSE} (hA : K.argv.size = A.length) (h : PRel K (cPS A p) a w) (hfrz : p'.frz = p.frz) (ht : ∀ t, WkSV (cSV (lkT t p.slots)) (cSV (lkT t p'.slots)))
    (hb : ∀ k, match lkB k p.boxes, lkB k p'.boxes with | some cs, some cs' => All2 WkC (cEs cs) (cEs cs') | none, none => True | _, _ => False) : PRel K (cPS A p') a w := by
  obtain ⟨⟨β, ω, Z, h⟩, _⟩ := h
  refine ⟨⟨β, ω, Z, Rel.weak h (fun r => ⟨(ps_hv _ r).1.trans (ps_hv _ r).1.symm, (ps_hv _ r).2.trans (ps_hv _ r).2.symm⟩) (fun t => by rw [cPS_tmp, cPS_tmp]; exact ht t) (fun k => ?_) fun i => by rw [cPS_arg, cPS_arg, hfrz]⟩, (cPS_args_length A _).trans hA.symm⟩
  rw [cPS_box, cPS_box]
  have := hb k
  cases h1 : lkB k p.boxes with
  | none =>
    cases h2 : lkB k p'.boxes with
    | none => exact ⟨trivial, fun _ => rfl⟩
    | some cs' => rw [h1, h2] at this; exact this.elim
  | some cs =>
    cases h2 : lkB k p'.boxes with
    | none => rw [h1, h2] at this; exact this.elim
    | some cs' => rw [h1, h2] at this; exact ⟨this, fun h => by cases h⟩
theorem merge_rel (hF : FOK K A inb) (hp : Keep p.dirty p0 (stOf A p)) (hq : Keep q.dirty p0 (stOf A q)) (hm : merge A inb c p q = some m) :
    (c = true → PRel K (cPS A p) a w → PRel K (cPS A m) a w) ∧ (c = false → PRel K (cPS A q) a w → PRel K (cPS A m) a w) ∧ Keep m.dirty p0 (stOf A m) ∧ m.dirty = p.dirty ++ q.dirty := by
  unfold merge at hm
  generalize hbk : ((p.boxes.map (·.1)).filter fun k => hasB k q) = bk at hm
  simp only at hm
  split at hm
  · rename_i hc
    simp only [Bool.and_eq_true, decide_eq_true_eq] at hc
    obtain ⟨⟨hfrz, hok⟩, hlen⟩ := hc
    cases hm
    have hd : Keep (p.dirty ++ q.dirty) p0 (stOf A (finE (stOf A p) (p.slots.map (·.1)) bk)) := by
      refine Keep.trans ?_ (finE_keep A _ (isBox_stOf A p) _ _ _)
      refine ⟨fun t ht => hp.1 t ?_, fun k hk => ?_⟩
      · rw [tch_append, Bool.or_eq_false_iff] at ht; exact ht.1
      · rw [whole_append, Bool.or_eq_false_iff] at hk
        rcases hp.2 k hk.1 with h | ⟨cs, cs', g1, g2, g3, g4⟩
        · exact .inl h
        · refine .inr ⟨cs, cs', g1, g2, g3, fun j hj => g4 j ?_⟩
          rw [part_append, Bool.or_eq_false_iff] at hj
          exact hj.1
    have hd' : Keep (p.dirty ++ q.dirty) p0 (stOf A (finE (stOf A q) (q.slots.map (·.1)) bk)) := Keep.trans hq.more (finE_keep A _ (isBox_stOf A q) _ _ _)
    generalize hp1 : finE (stOf A p) (p.slots.map (·.1)) bk = p1 at *
    generalize hq1 : finE (stOf A q) (q.slots.map (·.1)) bk = q1 at *
    -- the boxes of both
    have hbox : ∀ k, (∃ as bs, lkB k p1.boxes = some as ∧ lkB k q1.boxes = some bs ∧ as.length = bs.length) ∨ (lkB k p1.boxes = none ∧ lkB k q1.boxes = none) := by
      intro k
      rw [← hp1, ← hq1]
      simp only [finE]
      rw [lkB_finBoxes, lkB_finBoxes, stOf_box, stOf_box]
      by_cases hk : k ∈ bk
      · rw [if_pos hk, if_pos hk]
        have := List.all_eq_true.1 hlen k hk
        cases h1 : lkB k p.boxes with
        | none => rw [h1] at this; cases this
        | some as =>
          cases h2 : lkB k q.boxes with
          | none => rw [h1, h2] at this; cases this
          | some bs =>
            rw [h1, h2] at this
            exact .inl ⟨_, _, rfl, rfl, by simpa using this⟩
      · rw [if_neg hk, if_neg hk]
        exact .inr ⟨rfl, rfl⟩
    refine ⟨fun hct hr => ?_, fun hcf hr => ?_, ?_, rfl⟩
    · have hr1 := PRel.finE hF hok (p.slots.map (·.1)) hr
      rw [hp1] at hr1
      refine Rel.toPRel hF.size hr1 (by rw [← hp1]; rfl) (fun t => ?_) fun k => ?_
      · simp only
        rw [lkT_merge]
        split
        · subst hct; exact zipS_left mergeE_true _ _
        · exact zipS_left wkE_leftC _ _
      · simp only
        rw [lkB_merge]
        rcases hbox k with ⟨as, bs, h1, h2, h3⟩ | ⟨h1, h2⟩
        · rw [h1, h2]
          simp only
          rw [show (as.length == bs.length) = true by simpa using h3]
          exact cells_none (mergeCells_left hct _ k as bs 0 h3)
        · rw [h1]; trivial
    · have hr1 := PRel.finE hF hok (q.slots.map (·.1)) hr
      rw [hq1] at hr1
      refine Rel.toPRel hF.size hr1 (by rw [← hq1]; exact hfrz) (fun t => ?_) fun k => ?_
      · simp only
        rw [lkT_merge]
        split
        · subst hcf; exact zipS_right mergeE_false _ _
        · rename_i ht
          have h1 := hd.1 t ht
          have h2 := hd'.1 t ht
          rw [stOf_tmp] at h1 h2
          exact zipS_wk h1 h2
      · simp only
        rw [lkB_merge]
        rcases hbox k with ⟨as, bs, h1, h2, h3⟩ | ⟨h1, h2⟩
        · rw [h1, h2]
          simp only
          rw [show (as.length == bs.length) = true by simpa using h3]
          refine cells_none (mergeCells_right hcf _ k as bs 0 h3 fun i hw hpt x y hx hy => ?_)
          rw [Nat.zero_add] at hpt
          have e1 := hd.2 k hw
          have e2 := hd'.2 k hw
          rw [stOf_box, h1] at e1
          rw [stOf_box, h2] at e2
          rcases e1 with e1 | ⟨cs, cs', g1, g2, g3, g4⟩
          · cases e1
          · cases g2
            rcases e2 with e2 | ⟨ds, ds', f1, f2, f3, f4⟩
            · cases e2
            · cases f2
              rw [g1] at f1
              cases f1
              obtain ⟨z, z1, z2⟩ := g4 i hpt x hx
              obtain ⟨z', z3, z4⟩ := f4 i hpt y hy
              rw [z1] at z3
              cases z3
              exact ⟨z, z2, z4⟩
        · rw [h1, h2]; trivial
    · refine ⟨fun t ht => ?_, fun k hk => ?_⟩
      · rw [stOf_tmp]
        simp only
        rw [lkT_merge, ht]
        have := hd.1 t ht
        rw [stOf_tmp] at this
        exact WkS.trans this (zipS_leftE wkE_left _ _)
      · rw [stOf_box]
        simp only
        rw [lkB_merge]
        have e1 := hd.2 k hk
        rw [stOf_box] at e1
        rcases hbox k with ⟨as, bs, h1, h2, h3⟩ | ⟨h1, h2⟩
        · rw [h1, h2]
          rw [h1] at e1
          simp only
          rw [show (as.length == bs.length) = true by simpa using h3]
          rcases e1 with e1 | ⟨cs, cs', g1, g2, g3, g4⟩
          · cases e1
          · cases g2
            refine .inr ⟨cs, _, g1, rfl, g3.trans (mergeCells_length c _ k as bs 0 h3).symm, fun j hj x hx => ?_⟩
            obtain ⟨y, y1, y2⟩ := mergeCells_get c _ k as bs 0 j x h3 hk (by rw [Nat.zero_add]; exact hj) hx
            obtain ⟨z, z1, z2⟩ := g4 j hj y y1
            exact ⟨z, z1, WkE.trans z2 y2⟩
        · rw [h1]; exact .inl rfl
  · cases hm
end
end Go.Ve
