/- An evaluator of this program's code over plain values, proved sound: part 1. -/
import Derived.Orders
import Derived.Scope
import Derived.Laws.World
import Derived.Laws.Sem
import GoSem.Dispatch
import Derived.Lib.Strings
namespace Go.Vs
inductive Key where
 | inb (i : Nat) | loc (t : Nat) | esc (t i : Nat)
 deriving DecidableEq, Repr, Inhabited
inductive Res where
 | tmp (t : Nat) | box (k : Key) | arg (i : Nat)
 deriving DecidableEq, Repr, Inhabited
inductive NK where
 | ptr | func | iface | map | chan
 deriving DecidableEq, Repr, Inhabited
inductive D where
 | int (k : IntKind) (n : Int)
 | bool (b : Bool)
 | str (s : List UInt8)
 | nil
 | sl (e : Nat) (xs : List (List D))
 | nul (k : NK)
 deriving Inhabited
inductive C where
 | d (x : D)
 | own (e : Nat) (xs : List (List D))
 | bor (r : Res) (j hv cv e k : Nat) (xs : List (List D))
 | ea (r : Res) (j hv e i off : Nat)
 | da (xs : List D)
 | ptr (k : Key) (off : Nat)
 | clo (f : FuncId) (caps : List (Key × Nat))
 | dead
 deriving Inhabited
inductive SV where
 | one (c : C)
 | agg (cs : List C)
 | tup (vs : List (Bool × List C))
 | undef
 deriving Inhabited
structure RV where
 hv : Nat := 0
 cv : Nat := 0
 v : SV := .undef
 deriving Inhabited
abbrev St := Res → RV
def St.set (s : St) (r : Res) (x : RV) : St := fun r' => if r' = r then x else s r'
theorem set_same (s : St) (r : Res) (x : RV) : s.set r x r = x := by simp [St.set]
theorem set_other (s : St) {r q : Res} (x : RV) (h : q ≠ r) : s.set r x q = s q := by simp [St.set, h]
def SV.cells : SV → List C
 | .one c => [c]
 | .agg cs => cs
 | .tup vs => vs.flatMap (·.2)
 | .undef => []
def setTup : List (Bool × List C) → Nat → C → List (Bool × List C)
 | [], _, _ => []
 | (b, cs) :: r, j, c => if j < cs.length then (b, cs.set j c) :: r else (b, cs) :: setTup r (j - cs.length) c
def SV.setCell (v : SV) (j : Nat) (c : C) : SV :=
 match v with
 | .one _ => if j = 0 then .one c else v
 | .agg cs => .agg (cs.set j c)
 | .tup vs => .tup (setTup vs j c)
 | .undef => .undef
def mapE (kl : Nat) (ka : Bool) (vl : Nat) (va : Bool) : Nat := 4294967296 + ((kl * 2 + ka.toNat) * 65536 + (vl * 2 + va.toNat))
def isMap (e : Nat) : Bool := Nat.ble 4294967296 e
def itE : Nat := 1099511627776
def isIt (e : Nat) : Bool := Nat.ble 1099511627776 e
def unE (e : Nat) : Nat := e + 549755813888
def isUn (e : Nat) : Bool := Nat.ble 549755813888 e && !isIt e
def unIf (b : Bool) (e : Nat) : Nat := match b with | true => unE e | false => e
def oE (e : Nat) : Nat := match isUn e with | true => e - 549755813888 | false => e
def mKl (e : Nat) : Nat := (e - 4294967296) / 131072
def mKa (e : Nat) : Bool := (e - 4294967296) / 65536 % 2 == 1
def mVl (e : Nat) : Nat := (e - 4294967296) % 65536 / 2
def mVa (e : Nat) : Bool := (e - 4294967296) % 2 == 1
inductive Prog (α : Type) where
 | ret (a : α)
 | fail
 | get (r : Res) (k : RV → Prog α)
 | put (r : Res) (x : RV) (k : Prog α)
namespace Prog
def bind {α β : Type} : Prog α → (α → Prog β) → Prog β
 | .ret a, f => f a
 | .fail, _ => .fail
 | .get r k, f => .get r fun x => (k x).bind f
 | .put r x k, f => .put r x (k.bind f)
instance : Monad Prog where
 pure := Prog.ret
 bind := Prog.bind
def exec {α : Type} : Prog α → St → Option (α × St)
 | .ret a, s => some (a, s)
 | .fail, _ => none
 | .get r k, s => (k (s r)).exec s
 | .put r x k, s => k.exec (s.set r x)
def foot {α : Type} : Prog α → St → List Res × List Res
 | .ret _, _ => ([], [])
 | .fail, _ => ([], [])
 | .get r k, s => let f := (k (s r)).foot s; (r :: f.1, f.2)
 | .put r x k, s => let f := k.foot (s.set r x); (f.1, r :: f.2)
end Prog
def getR (r : Res) : Prog RV := .get r .ret
def putR (r : Res) (x : RV) : Prog Unit := .put r x (.ret ())
def need (p : Prop) [Decidable p] : Prog Unit := if p then .ret () else .fail
def opt {α : Type} : Option α → Prog α
 | some a => .ret a
 | none => .fail
inductive TK where
 | bool | int (k : IntKind) | str | ptr (e : TypeId) | slice (e : TypeId) | array (n : Nat) (e : TypeId) | struct (fs : List (Nat × TypeId))
 | func | iface | map (k e : TypeId) | other
 deriving DecidableEq, Repr, Inhabited
def TK.agg : TK → Bool
 | .struct _ | .array _ _ => true
 | _ => false
structure TI where
 size : Nat
 bytes : Nat
 kind : TK
 zero : Option (List D)
 deriving Inhabited
def tk : TypeDesc → TK
 | .bool => .bool
 | .int k => .int k
 | .string => .str
 | .pointer e => .ptr e
 | .slice e => .slice e
 | .array n e => .array n e
 | .struct fs => .struct (fs.toList.map fun f => (f.offset, f.type))
 | .func .. => .func
 | .interface _ => .iface
 | .map k e => .map k e
 | _ => .other
def reflect : Value → Option D
 | .int k n => some (.int k n)
 | .bool b => some (.bool b)
 | .string s => some (.str s.data.toList)
 | .slice none 0 0 => some .nil
 | .pointer none => some (.nul .ptr)
 | .nilFunc => some (.nul .func)
 | .nilIface => some (.nul .iface)
 | .map none => some (.nul .map)
 | .chan none => some (.nul .chan)
 | _ => none
def reflectAll : List Value → Option (List D)
 | [] => some []
 | v :: r => match reflect v, reflectAll r with | some d, some ds => some (d :: ds) | _, _ => none
def isAggV : Value → Bool
 | .agg _ => true
 | _ => false
def zeroD (agg : Bool) (v : Value) : Option (List D) := if isAggV v = agg then reflectAll v.cells.toList else none
def tiOf (P : Program) (t : TypeId) : Option TI :=
 match P.info? t, P.underlying t with
 | some i, some d => some { size := i.size, bytes := i.bytes, kind := tk d, zero := i.zero.bind (zeroD (tk d).agg) }
 | _, _ => none
structure CallRes where
 v : SV
 boxes : List (List C)
 frz : List (Nat × Nat) := []
 deriving Inhabited
abbrev AFun := List SV → List (List C) → Option CallRes
inductive Sc where
 | int (k : IntKind) | bool | str
 deriving DecidableEq, Inhabited
def fitSc : List Sc → List D → Bool
 | [], [] => true
 | .int k :: sh, .int k' _ :: ds => decide (k' = k) && fitSc sh ds
 | .bool :: sh, .bool _ :: ds => fitSc sh ds
 | .str :: sh, .str _ :: ds => fitSc sh ds
 | _, _ => false
structure Cfg where
 N : Nat
 T : List (TypeId × TI)
 Γ : Nat → FuncId → Option AFun
 var : List Nat
 res : List Nat
 eqs : List (TypeId × List Sc) := []
 dat : List Nat := []
 outd : Bool := false
 un : List Nat := []
def Cfg.keep (cfg : Cfg) (u : Nat) : Bool := cfg.var.contains u && !cfg.dat.contains u
def lk {α : Type} (t : Nat) : List (Nat × α) → Option α
 | [] => none
 | (u, a) :: r => if t = u then some a else lk t r
def Cfg.ti (c : Cfg) (t : TypeId) : Option TI := lk t c.T
def bcell (r : Res) (x : RV) (j : Nat) : C → C
 | .own e xs => .bor r j x.hv x.cv e 0 xs
 | c => c
def bcells (r : Res) (x : RV) : Nat → List C → List C
 | _, [] => []
 | j, c :: cs => bcell r x j c :: bcells r x (j + 1) cs
def btup (r : Res) (x : RV) : Nat → List (Bool × List C) → List (Bool × List C)
 | _, [] => []
 | j, (b, cs) :: vs => (b, bcells r x j cs) :: btup r x (j + cs.length) vs
def RV.copy (x : RV) (r : Res) : SV :=
 match x.v with
 | .one c => .one (bcell r x 0 c)
 | .agg cs => .agg (bcells r x 0 cs)
 | .tup vs => .tup (btup r x 0 vs)
 | .undef => .undef
def ev : Operand → Prog SV
 | .tmp t => .get (.tmp t) fun x => match x.v with | .undef => .fail | _ => .ret (x.copy (.tmp t))
 | .const v => match v with
  | .agg cs => match reflectAll cs.toList with | some ds => .ret (.agg (ds.map .d)) | none => .fail
  | v => match reflect v with | some d => .ret (.one (.d d)) | none => .fail
 | .func f => .ret (.one (.clo f []))
 | .global _ => .fail
def evs : List Operand → Prog (List SV)
 | [] => .ret []
 | o :: os => do let v ← ev o; let vs ← evs os; .ret (v :: vs)
def asOne : SV → Prog C
 | .one c => .ret c
 | _ => .fail
def ev1 (o : Operand) : Prog C := do asOne (← ev o)
def cInt : C → Prog Int
 | .d (.int _ n) => .ret n
 | _ => .fail
def cBool : C → Prog Bool
 | .d (.bool b) => .ret b
 | _ => .fail
def cStr : C → Prog (List UInt8)
 | .d (.str s) => .ret s
 | _ => .fail
def RV.at (x : RV) (j : Nat) : C := x.v.cells.getD j .dead
def freezeAt (r : Res) (j : Nat) (x : RV) : Prog Unit :=
 match x.at j with
 | .own e ys => putR r { x with v := x.v.setCell j (.d (.sl e ys)) }
 | .d (.sl _ _) => .ret ()
 | _ => .fail
def takeAt (r : Res) (j : Nat) (x : RV) : Prog Unit :=
 match x.at j with
 | .own _ _ => putR r { x with v := x.v.setCell j .dead }
 | _ => .fail
def Res.isArg : Res → Bool
 | .arg _ => true
 | _ => false
def stash (self : Option (Res × Nat)) (take : Res → Bool) : C → Prog C
 | .bor r j hv cv e k xs =>
  if r.isArg then .ret (.bor r j hv cv e k xs) else
  .get r fun x => do
   need (x.hv = hv ∧ x.cv = cv)
   match x.at j with
   | .own _ _ =>
    if self = some (r, j) ∨ take r = true then do takeAt r j x; .ret (.own e xs)
    else do freezeAt r j x; .ret (.d (.sl e xs))
   | .d (.sl _ _) => .ret (.d (.sl e xs))
   | _ => .fail
 | .dead => .fail
 | c => .ret c
def stashes (mk : Nat → Res × Nat) (take : Res → Bool) : Nat → List C → Prog (List C)
 | _, [] => .ret []
 | i, c :: cs => do let c' ← stash (some (mk i)) take c; let cs' ← stashes mk take (i + 1) cs; .ret (c' :: cs')
def stashTup (mk : Nat → Res × Nat) (take : Res → Bool) : Nat → List (Bool × List C) → Prog (List (Bool × List C))
 | _, [] => .ret []
 | i, (b, cs) :: vs => do let cs' ← stashes mk take i cs; let vs' ← stashTup mk take (i + cs.length) vs; .ret ((b, cs') :: vs')
def stashSV (r : Res) (take : Res → Bool) : SV → Prog SV
 | .one c => do .ret (.one (← stash (some (r, 0)) take c))
 | .agg cs => do .ret (.agg (← stashes (fun i => (r, i)) take 0 cs))
 | .tup vs => do .ret (.tup (← stashTup (fun i => (r, i)) take 0 vs))
 | .undef => .fail
def toD : C → Prog D
 | .d x => .ret x
 | .bor r j hv cv e _ xs => .get r fun x => do
   need (x.hv = hv ∧ x.cv = cv)
   freezeAt r j x
   .ret (.sl e xs)
 | _ => .fail
def toDs : List C → Prog (List D)
 | [] => .ret []
 | c :: cs => do let x ← toD c; let xs ← toDs cs; .ret (x :: xs)
def SV.asCells : SV → Option (List C)
 | .one c => some [c]
 | .agg cs => some cs
 | _ => none
def alive (x : RV) (j : Nat) : Bool :=
 match x.at j with
 | .own _ _ | .d (.sl _ _) => true
 | _ => false
def elems (size : Nat) : C → Prog (List (List D))
 | .d .nil => .ret []
 | .d (.sl e xs) => do need (e = size ∧ isMap e = false); .ret xs
 | .bor r j hv cv e _ xs => .get r fun x => do need (x.hv = hv ∧ x.cv = cv ∧ alive x j = true ∧ e = size ∧ isMap e = false); .ret xs
 | _ => .fail
def dint (k : IntKind) (n : Int) : SV := .one (.d (.int k n))
def dbool (b : Bool) : SV := .one (.d (.bool b))
def binInt (op : BinOp) (k : IntKind) (a b : Int) : Prog SV :=
 match op with
 | .add => .ret (dint k (k.wrap (a + b)))
 | .sub => .ret (dint k (k.wrap (a - b)))
 | .mul => .ret (dint k (k.wrap (a * b)))
 | .quo => do need (b ≠ 0); .ret (dint k (k.wrap (a.tdiv b)))
 | .rem => do need (b ≠ 0); .ret (dint k (a.tmod b))
 | .and => .ret (dint k (k.wrap ((BitVec.ofInt k.bits a &&& BitVec.ofInt k.bits b).toNat)))
 | .or => .ret (dint k (k.wrap ((BitVec.ofInt k.bits a ||| BitVec.ofInt k.bits b).toNat)))
 | .xor => .ret (dint k (k.wrap ((BitVec.ofInt k.bits a ^^^ BitVec.ofInt k.bits b).toNat)))
 | .andNot => .ret (dint k (k.wrap ((BitVec.ofInt k.bits a &&& ~~~(BitVec.ofInt k.bits b)).toNat)))
 | .eql => .ret (dbool (a == b))
 | .neq => .ret (dbool (a != b))
 | .lss => .ret (dbool (a < b))
 | .leq => .ret (dbool (a ≤ b))
 | .gtr => .ret (dbool (a > b))
 | .geq => .ret (dbool (a ≥ b))
 | _ => .fail
def binStr (op : BinOp) (a b : List UInt8) : Prog SV :=
 match op with
 | .add => do need (a.length + b.length ≤ 2 ^ 60); .ret (.one (.d (.str (a ++ b))))
 | .eql => .ret (dbool (decide (a = b)))
 | .neq => .ret (dbool (!decide (a = b)))
 | .lss => .ret (dbool (Op.bytesLess a b))
 | .leq => .ret (dbool (Op.bytesLess a b || decide (a = b)))
 | .gtr => .ret (dbool (!(Op.bytesLess a b || decide (a = b))))
 | .geq => .ret (dbool (!Op.bytesLess a b))
 | _ => .fail
def slNil : C → Option Bool
 | .d .nil => some true
 | .d (.sl e _) => if isMap e = true then none else some false
 | .own e _ => if isMap e = true then none else some false
 | .bor _ _ _ _ e _ _ => if isMap e = true then none else some false
 | _ => none
def binNilP (cfg : Cfg) (t : TypeId) (op : BinOp) (x : C) : Prog SV :=
 match cfg.ti t, op, slNil x with
 | some { kind := .slice _, .. }, .eql, some b => .ret (dbool b)
 | some { kind := .slice _, .. }, .neq, some b => .ret (dbool (!b))
 | _, _, _ => .fail
def binP (cfg : Cfg) (t : TypeId) (op : BinOp) (x y : C) : Prog SV :=
 match x, y with
 | .d (.int k a), .d (.int k' b) =>
  match op with
  | .shl => do need (0 ≤ b); .ret (dint k (k.wrap (a * 2 ^ (min b.toNat k.bits))))
  | .shr => do need (0 ≤ b); .ret (dint k (a.fdiv (2 ^ (min b.toNat k.bits))))
  | op => if k = k' then binInt op k a b else .fail
 | .d (.str a), .d (.str b) => binStr op a b
 | .d (.bool a), .d (.bool b) =>
  match cfg.ti t, op with
  | some { kind := .bool, .. }, .eql => .ret (dbool (a == b))
  | some { kind := .bool, .. }, .neq => .ret (dbool (!(a == b)))
  | _, _ => .fail
 | x, .d .nil => binNilP cfg t op x
 | _, _ => .fail
def eqD : D → D → Bool
 | .int _ a, .int _ b => a == b
 | .bool a, .bool b => a == b
 | .str a, .str b => decide (a = b)
 | _, _ => false
def eqDs : List D → List D → Bool
 | [], [] => true
 | x :: xs, y :: ys => eqD x y && eqDs xs ys
 | _, _ => false
def datas : List C → Option (List D)
 | [] => some []
 | .d x :: cs => match datas cs with | some ds => some (x :: ds) | none => none
 | _ :: _ => none
def eqAgg (cfg : Cfg) (t : TypeId) (op : BinOp) (xs ys : List C) : Prog SV :=
 match lk t cfg.eqs, op, datas xs, datas ys with
 | some sh, .eql, some ds, some es => if fitSc sh ds && fitSc sh es then .ret (dbool (eqDs ds es)) else .fail
 | some sh, .neq, some ds, some es => if fitSc sh ds && fitSc sh es then .ret (dbool (!eqDs ds es)) else .fail
 | _, _, _, _ => .fail
def slice1 (i : TI) (cs : List C) (off : Nat) : Prog SV := do
 need (0 < i.size ∧ off + i.size ≤ cs.length)
 if i.kind.agg then .ret (.agg ((cs.drop off).take i.size))
 else match cs[off]? with | some .dead => .fail | some c => .ret (.one c) | none => .fail
def loadP (i : TI) : C → Prog SV
 | .ptr k off => .get (.box k) fun x =>
  match x.v with
  | .agg cs => slice1 i (bcells (.box k) x 0 cs) off
  | _ => .fail
 | .ea r j hv _ n off => .get r fun x => do
  need (x.hv = hv)
  match x.at j with
  | .own _ ys | .d (.sl _ ys) => match ys[n]? with
   | some ds => slice1 i (ds.map .d) off
   | none => .fail
  | _ => .fail
 | .da ds => slice1 i (ds.map .d) 0
 | _ => .fail
def splice {α : Type} (l : List α) (off : Nat) (m : List α) : List α := l.take off ++ m ++ l.drop (off + m.length)
def storeP (take : Res → Bool) (i : TI) (a : C) (v : SV) : Prog Unit :=
 match a, v.asCells with
 | .ptr k off, some cs => do
  need (cs.length = i.size)
  let cs' ← stashes (fun n => (.box k, off + n)) take 0 cs
  .get (.box k) fun x =>
   match x.v with
   | .agg old => do
    need (off + i.size ≤ old.length)
    putR (.box k) { hv := x.hv + 1, cv := x.cv, v := .agg (splice old off cs') }
   | _ => .fail
 | .ea r j hv _ n off, some cs => do
  need (cs.length = i.size)
  let ds ← toDs cs
  .get r fun x => do
   need (x.hv = hv ∧ r.isArg = false)
   match x.at j with
   | .own e ys => match ys[n]? with
    | some row => do
     need (off + i.size ≤ row.length)
     putR r { x with cv := x.cv + 1, v := x.v.setCell j (.own e (ys.set n (splice row off ds))) }
    | none => .fail
   | _ => .fail
 | _, _ => .fail
def fieldP (cfg : Cfg) (t : TypeId) (c : C) (f : Nat) : Prog C :=
 match cfg.ti t with
 | some { kind := .struct fs, .. } => match fs[f]? with
  | some (o, ft) => match cfg.ti ft with
   | some i => do
    need (i.size ≠ 0)
    match c with
    | .ptr k off => .ret (.ptr k (off + o))
    | .ea r j hv e n off => .ret (.ea r j hv e n (off + o))
    | .da ds => do need (o ≤ ds.length); .ret (.da (ds.drop o))
    | _ => .fail
   | none => .fail
  | none => .fail
 | _ => .fail
def indexAddrP (cfg : Cfg) (t : TypeId) (c : C) (n : Int) : Prog C :=
 match cfg.ti t with
 | some { kind := .slice et, .. } => match cfg.ti et with
  | some i => match c with
   | .bor r j hv _ e k xs => do need (0 ≤ n ∧ n < xs.length); need (i.size = e ∧ isMap e = false); .ret (.ea r j hv e (k + n.toNat) 0)
   | .d (.sl e xs) => do
    need (0 ≤ n ∧ n < xs.length); need (i.size = e ∧ isMap e = false)
    match xs[n.toNat]? with | some ds => .ret (.da ds) | none => .fail
   | _ => .fail
  | none => .fail
 | some { kind := .array len et, .. } => match cfg.ti et with
  | some i => match c with
   | .ptr k off => do need (0 ≤ n ∧ n < len); .ret (.ptr k (off + n.toNat * i.size))
   | _ => .fail
  | none => .fail
 | _ => .fail
def indexP (cfg : Cfg) (t : TypeId) (v : SV) (n : Int) : Prog SV :=
 match cfg.ti t, v with
 | some { kind := .str, .. }, .one (.d (.str s)) => do
  need (0 ≤ n)
  match s[n.toNat]? with | some b => .ret (dint .u8 b.toNat) | none => .fail
 | some { kind := .array len et, .. }, .agg cs => match cfg.ti et with
  | some i => do need (0 ≤ n ∧ n < len); slice1 i cs (n.toNat * i.size)
  | none => .fail
 | _, _ => .fail
def lenP (isStr : Bool) (v : SV) : Prog SV :=
 match isStr, v with
 | true, .one (.d (.str s)) => .ret (dint .i64 s.length)
 | false, .one (.d .nil) => .ret (dint .i64 0)
 | false, .one (.d (.sl e xs)) => do need (isMap e = false); .ret (dint .i64 xs.length)
 | false, .one (.bor _ _ _ _ e _ xs) => do need (isMap e = false); .ret (dint .i64 xs.length)
 | _, _ => .fail
def fill (cells : List C) : List (Nat × List C) → List C
 | [] => cells
 | (off, cs) :: r => fill (splice cells off cs) r
def partsOf (fs : List (Nat × TypeId)) (cfg : Cfg) : List (Nat × Operand) → Prog (List (Nat × List C))
 | [] => .ret []
 | (i, o) :: r => do
  let v ← ev o
  match fs[i]?, v.asCells with
  | some (off, t), some cs => match cfg.ti t with
   | some ti => do need (cs.length = ti.size); let rest ← partsOf fs cfg r; .ret ((off, cs) :: rest)
   | none => .fail
  | _, _ => .fail
def buildP (cfg : Cfg) (t : TypeId) (parts : List (Nat × Operand)) : Prog SV :=
 match cfg.ti t with
 | some { kind := .struct fs, size, zero := some z, .. } => do
  need (z.length = size ∧ ∀ p ∈ fs, (cfg.ti p.2).isSome = true)
  let ps ← partsOf fs cfg parts
  need (∀ p ∈ ps, p.1 + p.2.length ≤ size)
  .ret (.agg (fill (z.map .d) ps))
 | some { kind := .array n et, size, zero := some z, .. } => match cfg.ti et with
  | some i => do
   need (z.length = size)
   let ps ← partsOf ((List.range n).map fun j => (j * i.size, et)) cfg parts
   need (∀ p ∈ ps, p.1 + p.2.length ≤ size)
   .ret (.agg (fill (z.map .d) ps))
  | none => .fail
 | _ => .fail
def rowsOf (size : Nat) : List (Nat × Operand) → List (List D) → Prog (List (List D))
 | [], rows => .ret rows
 | (i, o) :: r, rows => do
  let v ← ev o
  match v.asCells with
  | some cs => do
   need (cs.length = size ∧ i < rows.length)
   let ds ← toDs cs
   rowsOf size r (rows.set i ds)
  | none => .fail
def buildSliceP (cfg : Cfg) (t : TypeId) (len : Nat) (parts : List (Nat × Operand)) : Prog SV :=
 match cfg.ti t with
 | some { kind := .slice et, .. } => match cfg.ti et with
  | some i => match i.zero with
   | some z => do
    need (z.length = i.size ∧ 0 < i.size ∧ len * i.size ≤ 2 ^ 24 ∧ isMap i.size = false)
    let rows ← rowsOf i.size parts (List.replicate len z)
    .ret (.one (.own i.size rows))
   | none => .fail
  | none => .fail
 | _ => .fail
def makeSliceP (cfg : Cfg) (t : TypeId) (len cap : Int) : Prog SV :=
 match cfg.ti t with
 | some { kind := .slice et, .. } => match cfg.ti et with
  | some i => match i.zero with
   | some z => do
    need (z.length = i.size ∧ 0 < i.size ∧ i.bytes ≤ 2 ^ 10 ∧ isMap i.size = false)
    need (0 ≤ len ∧ len ≤ cap ∧ cap ≤ 2 ^ 36)
    .ret (.one (.own i.size (List.replicate len.toNat z)))
   | none => .fail
  | none => .fail
 | _ => .fail
def appendP (i : TI) (c : C) (ys : List (List D)) : Prog SV := do
 need (0 < i.size ∧ 0 < i.bytes ∧ i.bytes ≤ 2 ^ 10 ∧ (i.zero.map (·.length)) = some i.size ∧ isMap i.size = false)
 match c with
 | .d .nil => do
  need (ys.length ≤ 2 ^ 36)
  if ys = [] then .ret (.one (.d .nil)) else .ret (.one (.own i.size ys))
 | .bor r j hv cv e k xs => .get r fun x => do
  need (x.hv = hv ∧ x.cv = cv ∧ e = i.size ∧ r.isArg = false)
  match x.at j with
  | .own _ zs => do
   need (k + xs.length = zs.length)
   need (xs.length + ys.length ≤ 2 ^ 36)
   takeAt r j x
   .ret (.one (.own e (xs ++ ys)))
  | _ => .fail
 | _ => .fail
def capP (c : C) : Prog SV :=
 match c with
 | .d .nil => .ret (.one (.d (.int .i64 0)))
 | _ => .fail
def appendMakeP (i : TI) (c : C) (n : Int) : Prog SV :=
 match c, i.zero with
 | .d .nil, some z => do
  need (z.length = i.size ∧ 0 < i.size ∧ 0 < i.bytes ∧ i.bytes ≤ 2 ^ 10 ∧ isMap i.size = false)
  need (0 ≤ n ∧ n ≤ 2 ^ 36)
  if n.toNat = 0 then .ret (.one (.d .nil)) else .ret (.one (.own i.size (List.replicate n.toNat z)))
 | _, _ => .fail
def addedP (cfg : Cfg) (i : TI) (t : TypeId) (c : C) : Prog (List (List D)) :=
 match cfg.ti t, c with
 | some { kind := .str, .. }, .d (.str s) => do need (i.size = 1); .ret (s.map fun b => [.int .u8 b.toNat])
 | some { kind := .slice _, .. }, c => elems i.size c
 | _, _ => .fail
def subStr (v : SV) (lo hi : Option Int) : Prog SV :=
 match v with
 | .one (.d (.str s)) => do
  let h := hi.getD s.length
  let l := lo.getD 0
  need (0 ≤ l ∧ l ≤ h ∧ h ≤ s.length)
  .ret (.one (.d (.str ((s.take h.toNat).drop l.toNat))))
 | _ => .fail
def subSl (size : Nat) (v : SV) (lo hi : Option Int) : Prog SV :=
 match v with
 | .one (.d .nil) => do
  need (lo.getD 0 = 0 ∧ hi.getD 0 = 0)
  .ret (.one (.d .nil))
 | .one (.d (.sl e xs)) => do
  let h := hi.getD xs.length
  let l := lo.getD 0
  need (0 ≤ l ∧ l ≤ h ∧ h ≤ xs.length)
  need (e = size ∧ isMap e = false)
  .ret (.one (.d (.sl e ((xs.take h.toNat).drop l.toNat))))
 | .one (.bor r j hv cv e k xs) => do
  let h := hi.getD xs.length
  let l := lo.getD 0
  need (0 ≤ l ∧ l ≤ h ∧ h ≤ xs.length)
  need (e = size ∧ isMap e = false)
  .ret (.one (.bor r j hv cv e (k + l.toNat) ((xs.take h.toNat).drop l.toNat)))
 | _ => .fail
def convertP (cfg : Cfg) (src dst : TypeId) (v : SV) : Prog SV :=
 match cfg.ti src, cfg.ti dst, v with
 | some _, some { kind := .int k, .. }, .one (.d (.int _ n)) => .ret (dint k (k.wrap n))
 | some _, some { kind := .str, .. }, .one (.d (.str s)) => .ret (.one (.d (.str s)))
 | some _, some { kind := .slice et, .. }, .one (.d (.str s)) => match cfg.ti et with
  | some { kind := .int .u8, size := 1, .. } => .ret (.one (.own 1 (s.map fun b => [.int .u8 b.toNat])))
  | _ => .fail
 | some { kind := .slice et, .. }, some { kind := .str, .. }, .one c => match cfg.ti et with
  | some { kind := .int .u8, size := 1, .. } => do
   let xs ← elems 1 c
   match xs.mapM (fun x => match x with | [.int .u8 n] => some (UInt8.ofNat n.toNat) | _ => none) with
   | some l => .ret (.one (.d (.str l)))
   | none => .fail
  | _ => .fail
 | _, _, _ => .fail
def mcode (ki ei : TI) : Nat := mapE ki.size ki.kind.agg ei.size ei.kind.agg
def mapT (cfg : Cfg) (t : TypeId) : Option (TypeId × TI × TI) :=
 match cfg.ti t with
 | some { kind := .map kt et, .. } => match cfg.ti kt, cfg.ti et with
  | some ki, some ei => if ki.size < 32768 ∧ ei.size < 32768 then some (kt, ki, ei) else none
  | _, _ => none
 | _ => none
def keySc (cfg : Cfg) (kt : TypeId) : Option (List Sc) :=
 match cfg.ti kt with
 | some { kind := .int k, .. } => some [.int k]
 | some { kind := .str, .. } => some [.str]
 | some { kind := .bool, .. } => some [.bool]
 | some { kind := .struct _, .. } => lk kt cfg.eqs
 | _ => none
def findRow (n : Nat) (ks : List D) : List (List D) → Option Nat
 | [] => none
 | x :: xs => if eqDs ks (x.take n) = true then some 0 else (findRow n ks xs).map (· + 1)
def mapRows (e : Nat) : C → Prog (List (List D))
 | .d (.nul .map) => .ret []
 | .d (.sl e' xs) => do need (e' = e ∨ e' = unE e); .ret xs
 | .bor r j hv _ e' _ _ => .get r fun x => do
  need (x.hv = hv ∧ (e' = e ∨ e' = unE e))
  match x.at j with
  | .own _ ys => .ret ys
  | .d (.sl _ ys) => .ret ys
  | _ => .fail
 | _ => .fail
def keysFit (sh : List Sc) (n : Nat) (xs : List (List D)) : Bool := xs.all fun x => fitSc sh (x.take n)
def SV.isAgg : SV → Bool
 | .agg _ => true
 | _ => false
def SV.key (v : SV) : Option (List D) := match v.asCells with
 | some cs => datas cs
 | none => none
def entV (agg : Bool) (ds : List D) : Prog SV :=
 match agg with
 | true => .ret (.agg (ds.map .d))
 | false => match ds with
  | [d] => .ret (.one (.d d))
  | _ => .fail
def rowOr (n : Nat) (xs : List (List D)) (z : List D) : Option Nat → List D
 | some i => (xs.getD i []).drop n
 | none => z
def lookupP (cfg : Cfg) (t : TypeId) (c : C) (kv : SV) (ok : Bool) : Prog SV :=
 match mapT cfg t with
 | some (kt, ki, ei) => match keySc cfg kt, kv.key, ei.zero with
  | some sh, some kd, some z => do
   need (fitSc sh kd = true ∧ kd.length = ki.size ∧ kv.isAgg = ki.kind.agg ∧ z.length = ei.size ∧ (ei.kind.agg = true ∨ ei.size = 1))
   let xs ← mapRows (mcode ki ei) c
   need (keysFit sh ki.size xs = true)
   match ok with
   | true => .ret (.tup [(ei.kind.agg, (rowOr ki.size xs z (findRow ki.size kd xs)).map .d), (false, [.d (.bool (findRow ki.size kd xs).isSome)])])
   | false => entV ei.kind.agg (rowOr ki.size xs z (findRow ki.size kd xs))
  | _, _, _ => .fail
 | none => .fail
def updRow (n : Nat) (kd vd : List D) (xs : List (List D)) : List (List D) :=
 match findRow n kd xs with
 | some i => xs.set i (kd ++ vd)
 | none => xs ++ [kd ++ vd]
def ltB : List UInt8 → List UInt8 → Bool
 | [], _ :: _ => true
 | a :: l, b :: m => Nat.blt a.toNat b.toNat || (Nat.beq a.toNat b.toNat && ltB l m)
 | _, [] => false
def ltD : D → D → Bool
 | .int _ a, .int _ b => decide (a < b)
 | .bool a, .bool b => !a && b
 | .str a, .str b => ltB a b
 | _, _ => false
def ltDs : List D → List D → Bool
 | a :: l, b :: m => ltD a b || (eqD a b && ltDs l m)
 | _, _ => false
def insAt (n : Nat) (kd row : List D) : List (List D) → List (List D)
 | [] => [row]
 | x :: xs => if ltDs kd (x.take n) = true then row :: x :: xs else x :: insAt n kd row xs
def insRow (n : Nat) (kd vd : List D) (xs : List (List D)) : List (List D) :=
 match findRow n kd xs with
 | some i => xs.set i (kd ++ vd)
 | none => insAt n kd (kd ++ vd) xs
def putRow (un : Bool) (n : Nat) (kd vd : List D) (xs : List (List D)) : List (List D) :=
 match un with
 | true => insRow n kd vd xs
 | false => updRow n kd vd xs
def mapUpdateP (cfg : Cfg) (t : TypeId) (c : C) (kv vv : SV) : Prog Unit :=
 match mapT cfg t with
 | some (kt, ki, ei) => match keySc cfg kt, kv.key, vv.asCells with
  | some sh, some kd, some vc => do
   need (fitSc sh kd = true ∧ kd.length = ki.size ∧ kv.isAgg = ki.kind.agg ∧ vc.length = ei.size ∧ vv.isAgg = ei.kind.agg)
   let vd ← toDs vc
   match c with
   | .bor r j hv _ e _ _ => .get r fun x => do
    need (x.hv = hv ∧ r.isArg = false ∧ (e = mcode ki ei ∨ e = unE (mcode ki ei)))
    match x.at j with
    | .own e' xs => do
     need (keysFit sh ki.size xs = true)
     putR r { x with cv := x.cv + 1, v := x.v.setCell j (.own e' (putRow (isUn e') ki.size kd vd xs)) }
    | _ => .fail
   | _ => .fail
  | _, _, _ => .fail
 | none => .fail
def mapEntryP (cfg : Cfg) (t : TypeId) (c : C) (kv : SV) : Prog SV :=
 match mapT cfg t with
 | some (kt, ki, ei) => match keySc cfg kt, kv.key, ei.zero with
  | some sh, some kd, some z => do
   need (fitSc sh kd = true ∧ kd.length = ki.size ∧ kv.isAgg = ki.kind.agg ∧ z.length = ei.size ∧ (ei.kind.agg = true ∨ ei.size = 1))
   match c with
   | .bor r j hv _ e _ _ => .get r fun x => do
    need (x.hv = hv ∧ r.isArg = false ∧ e = mcode ki ei)
    match x.at j with
    | .own e' xs => do
     need (keysFit sh ki.size xs = true)
     putR r { x with cv := x.cv + 1, v := x.v.setCell j (.own e' (if (findRow ki.size kd xs).isSome = true then xs else xs ++ [kd ++ z])) }
     .ret (.tup [(ei.kind.agg, (rowOr ki.size xs z (findRow ki.size kd xs)).map .d), (false, [.d (.int .i64 ((findRow ki.size kd xs).getD xs.length : Nat))])])
    | _ => .fail
   | _ => .fail
  | _, _, _ => .fail
 | none => .fail
def entryStoreP (cfg : Cfg) (t : TypeId) (c st : C) (vv : SV) : Prog Unit :=
 match mapT cfg t, st, vv.asCells with
 | some (_, ki, ei), .d (.int _ n), some vc => do
  need (vc.length = ei.size ∧ vv.isAgg = ei.kind.agg)
  let vd ← toDs vc
  match c with
  | .bor r j hv _ e _ _ => .get r fun x => do
   need (x.hv = hv ∧ r.isArg = false ∧ e = mcode ki ei)
   match x.at j with
   | .own e' xs => do
    need (0 ≤ n ∧ n < xs.length)
    putR r { x with cv := x.cv + 1, v := x.v.setCell j (.own e' (xs.set n.toNat ((xs.getD n.toNat []).take ki.size ++ vd))) }
   | _ => .fail
  | _ => .fail
 | _, _, _ => .fail
def makeMapP (cfg : Cfg) (t : TypeId) (dst : Nat) : Prog SV :=
 match mapT cfg t with
 | some (_, ki, ei) => .ret (.one (.own (unIf (cfg.un.contains dst) (mcode ki ei)) []))
 | none => .fail
def lenMapP (cfg : Cfg) (t : TypeId) (c : C) : Prog SV :=
 match mapT cfg t with
 | some (_, ki, ei) => do
  let xs ← mapRows (mcode ki ei) c
  .ret (dint .i64 xs.length)
 | none => .fail
def rangeP (cfg : Cfg) (t : TypeId) (c : C) : Prog SV :=
 match mapT cfg t with
 | some (_, ki, ei) => do
  let d ← toD c
  match d with
  | .sl e xs => do need (e = mcode ki ei ∧ xs.length ≤ 1); .ret (.one (.own itE [[.sl e xs], []]))
  | _ => .fail
 | none => .fail
def entT (em : Nat) (row : List D) : List (Bool × List C) := [(mKa em, (row.take (mKl em)).map .d), (mVa em, (row.drop (mKl em)).map .d)]
def nextP (c : C) : Prog SV :=
 match c with
 | .bor r j hv _ e _ _ => .get r fun x => do
  need (x.hv = hv ∧ r.isArg = false ∧ isIt e = true)
  match x.at j with
  | .own e' [[.sl em []], []] => do need (e' = e); .ret (.tup [(false, [.d (.bool false)])])
  | .own e' [[.sl em [row]], []] => do
   putR r { x with cv := x.cv + 1, v := x.v.setCell j (.own e' [[.sl em [row]], [.int .i64 0]]) }
   .ret (.tup ((false, [.d (.bool true)]) :: entT em row))
  | .own e' [[.sl em [row]], [.int .i64 0]] => do need (e' = e); .ret (.tup [(false, [.d (.bool false)])])
  | _ => .fail
 | _ => .fail
def entryP (c : C) : Prog SV :=
 match c with
 | .bor r j hv _ e _ _ => .get r fun x => do
  need (x.hv = hv ∧ r.isArg = false ∧ isIt e = true)
  match x.at j with
  | .own _ [[.sl em [row]], [.int .i64 0]] => .ret (.tup (entT em row))
  | _ => .fail
 | _ => .fail
def keysOf : List C → List Key
 | [] => []
 | .ptr k _ :: cs => k :: keysOf cs
 | .clo _ caps :: cs => caps.map (·.1) ++ keysOf cs
 | _ :: cs => keysOf cs
def dedup : List Key → List Key
 | [] => []
 | k :: r => k :: (dedup r).filter (· ≠ k)
def idx (k : Key) : List Key → Nat
 | [] => 0
 | k' :: r => if k = k' then 0 else idx k r + 1
def prepC (cfg : Cfg) : C → Prog C
 | .bor (.tmp u) j hv cv e k xs => if cfg.keep u then .ret (.bor (.tmp u) j hv cv e k xs) else do let x ← toD (.bor (.tmp u) j hv cv e k xs); .ret (.d x)
 | c => .ret c
def prepCs (cfg : Cfg) : List C → Prog (List C)
 | [] => .ret []
 | c :: cs => do let c' ← prepC cfg c; let r ← prepCs cfg cs; .ret (c' :: r)
def prepSV (cfg : Cfg) : SV → Prog SV
 | .one c => do .ret (.one (← prepC cfg c))
 | .agg cs => do .ret (.agg (← prepCs cfg cs))
 | _ => .fail
def prepSVs (cfg : Cfg) : List SV → Prog (List SV)
 | [] => .ret []
 | v :: vs => do let v' ← prepSV cfg v; let r ← prepSVs cfg vs; .ret (v' :: r)
def canon (ks : List Key) : C → Prog C
 | .d x => .ret (.d x)
 | .bor r j hv cv e _ xs => .get r fun x => do
  need (x.hv = hv ∧ x.cv = cv)
  match x.at j with
  | .own _ _ => do
   need (∀ k ∈ ks, r ≠ .box k)
   .ret (.own e xs)
  | .d (.sl _ _) => .ret (.d (.sl e xs))
  | _ => .fail
 | .ptr k off => .ret (.ptr (.inb (idx k ks)) off)
 | .clo f caps => .ret (.clo f (caps.map fun p => (.inb (idx p.1 ks), p.2)))
 | _ => .fail
def canons (ks : List Key) : List C → Prog (List C)
 | [] => .ret []
 | c :: cs => do let c' ← canon ks c; let r ← canons ks cs; .ret (c' :: r)
def canonSV (ks : List Key) : SV → Prog SV
 | .one c => do .ret (.one (← canon ks c))
 | .agg cs => do .ret (.agg (← canons ks cs))
 | _ => .fail
def canonSVs (ks : List Key) : List SV → Prog (List SV)
 | [] => .ret []
 | v :: vs => do let v' ← canonSV ks v; let r ← canonSVs ks vs; .ret (v' :: r)
def plain : C → Bool
 | .d _ | .own _ _ => true
 | _ => false
def tok (ks : List Key) : C → Bool
 | .d _ | .own _ _ | .dead => true
 | .ptr k _ => ks.contains k
 | _ => false
def tc (ks : List Key) : C → C
 | .ptr k off => .ptr (.inb (idx k ks)) off
 | c => c
def bok (n : Nat) : C → Bool
 | .d _ | .own _ _ | .dead => true
 | .ptr (.inb i) _ => decide (i < n)
 | _ => false
def bc (ks : List Key) : C → C
 | .ptr (.inb i) off => .ptr (ks.getD i default) off
 | c => c
def getBoxes (kk : List Key) : List Key → Prog (List (List C))
 | [] => .ret []
 | k :: ks => .get (.box k) fun x => match x.v with
  | .agg cs => do need (cs.all (tok kk) = true); let r ← getBoxes kk ks; .ret (cs.map (tc kk) :: r)
  | _ => .fail
def boxKeys : List Key → Prog (List Key)
 | [] => .ret []
 | k :: ks => .get (.box k) fun x => match x.v with
  | .agg cs => do let r ← boxKeys ks; .ret (keysOf cs ++ r)
  | _ => .fail
def samePtr : SV → List C → Bool
 | .agg [.ptr k off], [.ptr k' off'] => decide (k = k') && Nat.beq off off'
 | _, _ => false
def putBoxes (kk : List Key) : List Key → List (List C) → Prog Unit
 | [], [] => .ret ()
 | k :: ks, b :: bs => .get (.box k) fun x => do
  need (b.all (bok kk.length) = true)
  match samePtr x.v (b.map (bc kk)) with
  | true => putBoxes kk ks bs
  | false => do putR (.box k) { hv := x.hv + 1, cv := x.cv, v := .agg (b.map (bc kk)) }; putBoxes kk ks bs
 | _, _ => .fail
def escape (t : Nat) : Nat → List (List C) → Prog Unit
 | _, [] => .ret ()
 | i, b :: bs => .get (.box (.esc t i)) fun x => match x.v with
  | .undef => do need (b.all plain = true); putR (.box (.esc t i)) { hv := x.hv + 1, cv := x.cv, v := .agg b }; escape t (i + 1) bs
  | _ => .fail
def frzOk (args : List SV) (l : List (Nat × Nat)) : Bool :=
 l.all fun p => match (args.getD p.1 .undef).cells.getD p.2 .dead with | .d _ => true | _ => false
def frz1 (v : SV) (j : Nat) : SV :=
 match v.cells.getD j .dead with
 | .own e ys => v.setCell j (.d (.sl e ys))
 | _ => v
def frzArgs : List (Nat × Nat) → List SV → List SV
 | [], args => args
 | (i, j) :: r, args => frzArgs r (args.set i (frz1 (args.getD i .undef) j))
def backKey (ks : List Key) (t : Nat) : Key → Key
 | .inb i => if i < ks.length then ks.getD i default else .esc t (i - ks.length)
 | k => k
def back (ks : List Key) (t : Nat) : C → Prog C
 | .d x => .ret (.d x)
 | .own e xs => .ret (.own e xs)
 | .ptr (.inb i) off => .ret (.ptr (backKey ks t (.inb i)) off)
 | .clo f caps => do need (caps = []); .ret (.clo f [])
 | _ => .fail
def backs (ks : List Key) (t : Nat) : List C → Prog (List C)
 | [] => .ret []
 | c :: cs => do let c' ← back ks t c; let r ← backs ks t cs; .ret (c' :: r)
def backTup (ks : List Key) (t : Nat) : List (Bool × List C) → Prog (List (Bool × List C))
 | [] => .ret []
 | (b, cs) :: vs => do let cs' ← backs ks t cs; let r ← backTup ks t vs; .ret ((b, cs') :: r)
def backSV (ks : List Key) (t : Nat) : SV → Prog SV
 | .one c => do .ret (.one (← back ks t c))
 | .agg cs => do .ret (.agg (← backs ks t cs))
 | .tup vs => do .ret (.tup (← backTup ks t vs))
 | .undef => .fail
def callP (cfg : Cfg) (f : FuncId) (args0 : List SV) (t : Nat) : Prog SV :=
 match cfg.Γ t f with
 | none => .fail
 | some F => do
  let args ← prepSVs cfg args0
  let more ← boxKeys (dedup (keysOf (args.flatMap SV.cells)))
  let ks := dedup (keysOf (args.flatMap SV.cells) ++ more)
  let cargs ← canonSVs ks args
  let bs ← getBoxes ks ks
  match F cargs bs with
  | none => .fail
  | some r => do
   need (ks.length ≤ r.boxes.length ∧ frzOk cargs r.frz = true)
   putBoxes ks ks (r.boxes.take ks.length)
   escape t 0 (r.boxes.drop ks.length)
   backSV ks t r.v
def calleeP (o : Operand) : Prog (FuncId × List SV) :=
 match o with
 | .func f => .ret (f, [])
 | o => do
  match ← ev1 o with
  | .clo f caps => .ret (f, caps.map fun p => .one (.ptr p.1 p.2))
  | _ => .fail
def takeMove (u : Operand) (r : Res) : Bool :=
 match u, r with
 | .tmp u, .tmp t => t == u
 | _, _ => false
def isVar (cfg : Cfg) (o : Operand) : Bool :=
 match o with
 | .tmp u => cfg.var.contains u
 | _ => false
def takeAssign (cfg : Cfg) (dst : Nat) (r : Res) : Bool :=
 match r with
 | .tmp u => !cfg.var.contains u || cfg.res.contains dst
 | .box (.loc _) => cfg.res.contains dst
 | _ => false
def takeStore (cfg : Cfg) (c : C) (r : Res) : Bool :=
 match r with
 | .tmp u => !cfg.var.contains u || (match c with | .ptr (.loc t) _ => cfg.res.contains t | _ => false)
 | .box (.loc _) => (match c with | .ptr (.loc t) _ => cfg.res.contains t | _ => false)
 | _ => false
def moveCell (self : Res × Nat) (u : Operand) : C → Prog C
 | .bor r j hv cv e k xs => if takeMove u r then stash (some self) (takeMove u) (.bor r j hv cv e k xs) else .ret (.bor r j hv cv e k xs)
 | c => .ret c
def moveCells (r : Res) (u : Operand) : Nat → List C → Prog (List C)
 | _, [] => .ret []
 | i, c :: cs => do let c' ← moveCell (r, i) u c; let cs' ← moveCells r u (i + 1) cs; .ret (c' :: cs')
def moveTup (r : Res) (u : Operand) : Nat → List (Bool × List C) → Prog (List (Bool × List C))
 | _, [] => .ret []
 | i, (b, cs) :: vs => do let cs' ← moveCells r u i cs; let vs' ← moveTup r u (i + cs.length) vs; .ret ((b, cs') :: vs')
def moveSV (r : Res) (u : Operand) : SV → Prog SV
 | .one c => do .ret (.one (← moveCell (r, 0) u c))
 | .agg cs => do .ret (.agg (← moveCells r u 0 cs))
 | .tup vs => do .ret (.tup (← moveTup r u 0 vs))
 | .undef => .fail
def evOpt : Option Operand → Prog (Option Int)
 | none => .ret none
 | some o => do .ret (some (← cInt (← ev1 o)))
def minmax (isMin : Bool) : List SV → Prog SV
 | [.one (.d (.int k a)), .one (.d (.int _ b))] => .ret (dint k (if isMin then (if b < a then b else a) else (if b > a then b else a)))
 | _ => .fail
def aval (cfg : Cfg) (op : Op) (dst : Nat) : Prog SV :=
 match op with
 | .move x => do
  let v ← ev x
  if isVar cfg x then .ret v else moveSV (.tmp dst) x v
 | .assign x => do
  let v ← ev x
  stashSV (.tmp dst) (takeAssign cfg dst) v
 | .pick c a b => do
  let b' ← cBool (← ev1 c)
  if b' = true then ev a else ev b
 | .alloc t => match cfg.ti t with
  | some { size, zero := some z, .. } => do
   need (z.length = size)
   .get (.box (.loc dst)) fun x => match x.v with
    | .undef => do putR (.box (.loc dst)) { hv := x.hv + 1, cv := x.cv, v := .agg (z.map .d) }; .ret (.one (.ptr (.loc dst) 0))
    | _ => .fail
  | _ => .fail
 | .box _ x => do
  let v ← ev x
  match v.asCells with
  | some cs => do
   let cs' ← stashes (fun n => (.box (.loc dst), n)) (takeStore cfg (.ptr (.loc dst) 0)) 0 cs
   .get (.box (.loc dst)) fun x => match x.v with
    | .undef => do putR (.box (.loc dst)) { hv := x.hv + 1, cv := x.cv, v := .agg cs' }; .ret (.one (.ptr (.loc dst) 0))
    | _ => .fail
  | none => .fail
 | .build t ps => buildP cfg t ps.toList
 | .buildSlice t len ps => buildSliceP cfg t len ps.toList
 | .load t a => match cfg.ti t with
  | some i => do loadP i (← ev1 a)
  | none => .fail
 | .nilCheck x => do
  match ← ev1 x with
  | .ptr k o => .ret (.one (.ptr k o))
  | .ea r j hv e i o => .ret (.one (.ea r j hv e i o))
  | .da ds => .ret (.one (.da ds))
  | _ => .fail
 | .binOp op t x y _ => do
  match ← ev x, ← ev y with
  | .one a, .one b => binP cfg t op a b
  | .agg xs, .agg ys => eqAgg cfg t op xs ys
  | _, _ => .fail
 | .unOp op _ x => do
  match op, ← ev1 x with
  | .neg, .d (.int k n) => .ret (dint k (k.wrap (0 - n)))
  | .xor, .d (.int k n) => binInt .xor k (if k.signed then -1 else k.max) n
  | .not, .d (.bool b) => .ret (dbool (!b))
  | _, _ => .fail
 | .convert s t x => do convertP cfg s t (← ev x)
 | .makeFunc (.func f) first captured => do
  need (first = #[])
  let vs ← evs captured.toList
  match vs.mapM (fun v => match v with | .one (.ptr k o) => some (k, o) | _ => none) with
  | some l => .ret (.one (.clo f l))
  | none => .fail
 | .makeSlice t l c => do
  let n ← cInt (← ev1 l)
  let m ← cInt (← ev1 c)
  makeSliceP cfg t n m
 | .slice t x lo hi none => match cfg.ti t with
  | some { kind := .str, .. } => do
   let v ← ev x
   let l ← evOpt lo
   let h ← evOpt hi
   subStr v l h
  | some { kind := .slice et, .. } => match cfg.ti et with
   | some i => do
    let v ← ev x
    let l ← evOpt lo
    let h ← evOpt hi
    subSl i.size v l h
   | none => .fail
  | _ => .fail
 | .fieldAddr t x f => do .ret (.one (← fieldP cfg t (← ev1 x) f))
 | .field t x f => do
  match cfg.ti t, ← ev x with
  | some { kind := .struct fs, .. }, .agg cs => match fs[f]? with
   | some (o, ft) => match cfg.ti ft with
    | some i => slice1 i cs o
    | none => .fail
   | none => .fail
  | _, _ => .fail
 | .indexAddr t x ix => do
  let c ← ev1 x
  let n ← cInt (← ev1 ix)
  .ret (.one (← indexAddrP cfg t c n))
 | .index t x ix => do
  let v ← ev x
  let n ← cInt (← ev1 ix)
  indexP cfg t v n
 | .extract x n => do
  match ← ev x with
  | .tup vs => match vs[n]? with
   | some (true, cs) => moveSV (.tmp dst) x (.agg cs)
   | some (false, [c]) => moveSV (.tmp dst) x (.one c)
   | _ => .fail
  | _ => .fail
 | .call { callee := .builtin .len, args, argTypes } => match args.toList, argTypes.toList with
  | [x], [t] => match cfg.ti t with
   | some { kind := .str, .. } => do lenP true (← ev x)
   | some { kind := .slice _, .. } => do lenP false (← ev x)
   | some { kind := .map _ _, .. } => do lenMapP cfg t (← ev1 x)
   | _ => .fail
  | _, _ => .fail
 | .makeMap t none => makeMapP cfg t dst
 | .lookup t x ix ok => do
  let c ← ev1 x
  let v ← ev ix
  lookupP cfg t c v ok
 | .range t x => do rangeP cfg t (← ev1 x)
 | .next x false => do nextP (← ev1 x)
 | .entry x => do entryP (← ev1 x)
 | .mapEntry t m k => do
  let c ← ev1 m
  let v ← ev k
  mapEntryP cfg t c v
 | .call { callee := .builtin .append, args, argTypes } => match args.toList, argTypes.toList with
  | [x, y], [t, t2] => match cfg.ti t with
   | some { kind := .slice et, .. } => match cfg.ti et with
    | some i => match cfg.ti t2 with
     | some { kind := .int .i64, .. } => do
      let c ← ev1 x
      let n ← cInt (← ev1 y)
      appendMakeP i c n
     | _ => do
      let c ← ev1 x
      let c2 ← ev1 y
      let ys ← addedP cfg i t2 c2
      appendP i c ys
    | none => .fail
   | _ => .fail
  | _, _ => .fail
 | .call { callee := .builtin .cap, args, argTypes } => match args.toList, argTypes.toList with
  | [x], [t] => match cfg.ti t with
   | some { kind := .slice _, .. } => do capP (← ev1 x)
   | _ => .fail
  | _, _ => .fail
 | .call { callee := .builtin .min, args, .. } => do minmax true (← evs args.toList)
 | .call { callee := .builtin .max, args, .. } => do minmax false (← evs args.toList)
 | .call { callee := .value o, args, .. } => do
  let (f, caps) ← calleeP o
  let vs ← evs args.toList
  callP cfg f (vs ++ caps) dst
 | _ => .fail
def putTmp (cfg : Cfg) (t : Nat) (v : SV) : Prog Unit :=
 .get (.tmp t) fun x => do
  need (t < cfg.N)
  putR (.tmp t) { hv := x.hv + 1, cv := x.cv, v }
def guardVal (ops : Array Oper) (j : Nat) : Prog (Option Bool) :=
 match (ops[j]?).bind (·.dst) with
 | some t => .get (.tmp t) fun x => match x.v with
  | .one (.d (.bool b)) => .ret (some b)
  | .tup [] => .ret none
  | _ => .fail
 | none => .fail
def astep0 (cfg : Cfg) (o : Oper) : Prog Unit :=
 match o.op, o.dst with
 | .store t a x, none => match cfg.ti t with
  | some i => do
   let c ← ev1 a
   let v ← ev x
   storeP (takeStore cfg c) i c v
  | none => .fail
 | .mapUpdate t m k x, none | .insert t m k x, none => do
  let c ← ev1 m
  let vk ← ev k
  let vx ← ev x
  mapUpdateP cfg t c vk vx
 | .entryStore t m st x, none => do
  let c ← ev1 m
  let s ← ev1 st
  let vx ← ev x
  entryStoreP cfg t c s vx
 | op, some d => do putTmp cfg d (← aval cfg op d)
 | _, none => .fail
def astep (cfg : Cfg) (ops : Array Oper) (o : Oper) : Prog Unit :=
 match o.guard with
 | none => astep0 cfg o
 | some (j, want) => do
  let b ← guardVal ops j
  if b = some want then astep0 cfg o
  else match o.dst with
   | some d => putTmp cfg d (.tup [])
   | none => .ret ()
def runOps (cfg : Cfg) (ops : Array Oper) : List Oper → St → Option St
 | [], s => some s
 | o :: r, s => match (astep cfg ops o).exec s with
  | some (_, s') => runOps cfg ops r s'
  | none => none
structure PS where
 slots : List (Nat × SV)
 boxes : List (Key × List C)
 args : List SV
def lkK {α : Type} (k : Key) : List (Key × α) → Option α
 | [] => none
 | (u, a) :: r => if k = u then some a else lkK k r
def PS.st (p : PS) : St
 | .tmp t => { v := (lk t p.slots).getD .undef }
 | .box k => { v := match lkK k p.boxes with | some cs => .agg cs | none => .undef }
 | .arg i => { v := p.args.getD i .undef }
def stl (s : St) (bk : List Key) : C → C
 | .bor r j hv cv e k xs => if (s r).hv = hv ∧ (s r).cv = cv then .bor r j 0 0 e k xs else .dead
 | .ea _ _ _ _ _ _ => .dead
 | .ptr k off => if bk.contains k then .ptr k off else .dead
 | .clo f caps => if caps.all (fun p => bk.contains p.1) then .clo f caps else .dead
 | c => c
def stls (s : St) (bk : List Key) : List C → List C
 | [] => []
 | c :: cs => stl s bk c :: stls s bk cs
def stlTup (s : St) (bk : List Key) : List (Bool × List C) → List (Bool × List C)
 | [] => []
 | (b, cs) :: r => (b, stls s bk cs) :: stlTup s bk r
def stlSV (s : St) (bk : List Key) : SV → SV
 | .one c => .one (stl s bk c)
 | .agg cs => .agg (stls s bk cs)
 | .tup vs => .tup (stlTup s bk vs)
 | .undef => .undef
def consSlot (t : Nat) (v : SV) (r : List (Nat × SV)) : List (Nat × SV) :=
 match v with
 | .undef => r
 | v => (t, v) :: r
def consBox (k : Key) (v : SV) (r : List (Key × List C)) : List (Key × List C) :=
 match v with
 | .agg cs => (k, cs) :: r
 | _ => r
def finSlots (s : St) (bk : List Key) : List Nat → List (Nat × SV)
 | [] => []
 | t :: ts => consSlot t (stlSV s bk (s (.tmp t)).v) (finSlots s bk ts)
def finBoxes (s : St) (bk : List Key) : List Key → List (Key × List C)
 | [] => []
 | k :: ks => consBox k (stlSV s bk (s (.box k)).v) (finBoxes s bk ks)
def finArgs (s : St) (bk : List Key) : Nat → Nat → List SV
 | _, 0 => []
 | i, n + 1 => stlSV s bk (s (.arg i)).v :: finArgs s bk (i + 1) n
def fin (s : St) (keys : List Nat) (bkeys : List Key) (nargs : Nat) : PS :=
 { slots := finSlots s bkeys keys, boxes := finBoxes s bkeys bkeys, args := finArgs s bkeys 0 nargs }
theorem ite_bind {α β : Type} (c : Prop) [Decidable c] (p q : Prog α) (f : α → Prog β) : (if c then p else q).bind f = if c then p.bind f else q.bind f := by split <;> rfl
theorem ite_exec {α : Type} (c : Prop) [Decidable c] (p q : Prog α) (s : St) : (if c then p else q).exec s = if c then p.exec s else q.exec s := by split <;> rfl
end Go.Vs
namespace Go.Vs
def All2 {α β : Type} (R : α → β → Prop) : List α → List β → Prop
 | [], [] => True
 | a :: as, b :: bs => R a b ∧ All2 R as bs
 | _, _ => False
def NulRel : NK → Value → Prop
 | .ptr, v => v = .pointer none
 | .func, v => v = .nilFunc
 | .iface, v => v = .nilIface
 | .map, v => v = .map none
 | .chan, v => v = .chan none
def isOne : Value → Bool
 | .agg _ | .tuple _ => false
 | _ => true
def blkOf : Value → Option Nat
 | .slice (some ad) _ _ => some ad.block
 | .map (some b) => some b
 | .pointer (some ad) => some ad.block
 | _ => none
def mpV (e b : Nat) : Value :=
 match isIt e with
 | true => .pointer (some ⟨b, 0, none⟩)
 | false => .map (some b)
theorem mpV_blk (e b : Nat) : blkOf (mpV e b) = some b := by unfold mpV; split <;> rfl
theorem mpV_one (e b : Nat) : isOne (mpV e b) = true := by unfold mpV; split <;> rfl
theorem mpV_map {e : Nat} (h : isIt e = false) (b : Nat) : mpV e b = .map (some b) := by simp only [mpV, h]
theorem mpV_it {e : Nat} (h : isIt e = true) (b : Nat) : mpV e b = .pointer (some ⟨b, 0, none⟩) := by simp only [mpV, h]
theorem mpV_inj {e b c : Nat} (h : mpV e b = mpV e c) : b = c := by
 have := congrArg blkOf h
 rw [mpV_blk, mpV_blk] at this
 exact Option.some.inj this
theorem mpV_sl {e b : Nat} {ad : Option Addr} {l c : Nat} (h : Value.slice ad l c = mpV e b) : False := by
 unfold mpV at h; split at h <;> cases h
theorem mpV_cells (e b : Nat) : (mpV e b).cells = #[mpV e b] := by unfold mpV; split <;> rfl
def ItMeta (x : List D) (rest : List (List D)) (since : Nat) (seen : Array Nat) (stepped : Nat) : Prop :=
 ∃ e ys, x = [.sl e ys] ∧ isMap e = true ∧ isIt e = false ∧ isUn e = false ∧ since = ys.length ∧ stepped = ys.length ∧ rest = [seen.toList.map fun n => .int .i64 (n : Int)]
def shapeOk (agg : Bool) (n : Nat) (v : Value) : Prop :=
 match agg with
 | true => ∃ cs : Array Value, v = .agg cs ∧ cs.size = n
 | false => isOne v = true ∧ n = 1
def entCells (en : MapEntry) : List Value := en.key.cells.toList ++ en.val.cells.toList
def EntOk (e : Nat) (en : MapEntry) : Prop := shapeOk (mKa e) (mKl e) en.key ∧ shapeOk (mVa e) (mVl e) en.val
structure EntsOk (e clk : Nat) (es : List MapEntry) : Prop where
 ok : ∀ en ∈ es, EntOk e en
 born : ∀ (i : Nat) en, es[i]? = some en → en.born = i
 clk : clk = es.length
 nd : es.Pairwise fun a b => a.key ≠ b.key
mutual
def DRel (w : World) (Z : Nat → Prop) : D → Value → Prop
 | .int k n, v => v = .int k n
 | .bool b, v => v = .bool b
 | .str s, v => v = .string ⟨s.toArray⟩
 | .nil, v => v = .slice none 0 0
 | .sl e xs, v => match isMap e with
  | false => ∃ (ad : Addr) (cap : Nat), v = .slice (some ad) xs.length cap ∧ (cap = 0 ∨ ad.spot = none ∧ Z ad.block) ∧ xs.length ≤ cap ∧ RowsRel w Z e xs ad.block ad.off
  | true => ∃ b, v = mpV e b ∧ Z b ∧ match isIt e with
   | false => ∃ (es : Array MapEntry) (clk : Nat) (es' : List MapEntry), w.heap[b]? = some (.map es clk) ∧ EntsOk (oE e) clk es.toList ∧ EntsRel w Z xs es' ∧ es'.Perm es.toList ∧ (isUn e = false → es' = es.toList)
   | true => ItRel w Z xs b
 | .nul k, v => NulRel k v
def RowRel (w : World) (Z : Nat → Prop) : List D → Nat → Nat → Prop
 | [], _, _ => True
 | d :: ds, b, o => (∃ v, w.cell? ⟨b, o, none⟩ = some v ∧ DRel w Z d v) ∧ RowRel w Z ds b (o + 1)
def RowsRel (w : World) (Z : Nat → Prop) (e : Nat) : List (List D) → Nat → Nat → Prop
 | [], _, _ => True
 | x :: xs, b, o => x.length = e ∧ RowRel w Z x b o ∧ RowsRel w Z e xs b (o + e)
def CellsRel (w : World) (Z : Nat → Prop) : List D → List Value → Prop
 | [], [] => True
 | d :: ds, v :: vs => DRel w Z d v ∧ CellsRel w Z ds vs
 | _, _ => False
def ItRel (w : World) (Z : Nat → Prop) : List (List D) → Nat → Prop
 | x :: rest, b => ∃ (m since : Nat) (seen : Array Nat) (stepped : Nat), w.heap[b]? = some (.mapIter (some m) since seen stepped) ∧ CellsRel w Z x [.map (some m)] ∧ ItMeta x rest since seen stepped
 | [], _ => False
def EntsRel (w : World) (Z : Nat → Prop) : List (List D) → List MapEntry → Prop
 | [], [] => True
 | x :: xs, en :: es => CellsRel w Z x (entCells en) ∧ EntsRel w Z xs es
 | _, _ => False
end
def MapAt (w : World) (Z : Nat → Prop) (e : Nat) (xs : List (List D)) (b : Nat) : Prop :=
 match isIt e with
 | true => ItRel w Z xs b
 | false => ∃ (es : Array MapEntry) (clk : Nat) (es' : List MapEntry), w.heap[b]? = some (.map es clk) ∧ EntsOk (oE e) clk es.toList ∧ EntsRel w Z xs es' ∧ es'.Perm es.toList ∧ (isUn e = false → es' = es.toList)
theorem MapAt.mu {w : World} {Z : Nat → Prop} {e : Nat} {xs : List (List D)} {b : Nat} (he : isIt e = false) : MapAt w Z e xs b ↔ ∃ (es : Array MapEntry) (clk : Nat) (es' : List MapEntry), w.heap[b]? = some (.map es clk) ∧ EntsOk (oE e) clk es.toList ∧ EntsRel w Z xs es' ∧ es'.Perm es.toList ∧ (isUn e = false → es' = es.toList) := by
 simp only [MapAt, he]
theorem oE_of {e : Nat} (h : isUn e = false) : oE e = e := by unfold oE; rw [h]
theorem MapAt.mp {w : World} {Z : Nat → Prop} {e : Nat} {xs : List (List D)} {b : Nat} (he : isIt e = false) (hu : isUn e = false) : MapAt w Z e xs b ↔ ∃ (es : Array MapEntry) (clk : Nat), w.heap[b]? = some (.map es clk) ∧ EntsOk e clk es.toList ∧ EntsRel w Z xs es.toList := by
 rw [MapAt.mu he]
 rw [oE_of hu]
 constructor
 ·rintro ⟨es, clk, es', h1, h2, h3, _, h5⟩
  rw [h5 hu] at h3
  exact ⟨es, clk, h1, h2, h3⟩
 ·rintro ⟨es, clk, h1, h2, h3⟩
  exact ⟨es, clk, es.toList, h1, h2, h3, .refl _, fun _ => rfl⟩
theorem MapAt.it {w : World} {Z : Nat → Prop} {e : Nat} {xs : List (List D)} {b : Nat} (he : isIt e = true) : MapAt w Z e xs b ↔ ItRel w Z xs b := by
 simp only [MapAt, he]
theorem DRel.sl_iff {w : World} {Z : Nat → Prop} {e : Nat} {xs : List (List D)} {v : Value} (he : isMap e = false) :
  DRel w Z (.sl e xs) v ↔ ∃ (ad : Addr) (cap : Nat), v = .slice (some ad) xs.length cap ∧ (cap = 0 ∨ ad.spot = none ∧ Z ad.block) ∧ xs.length ≤ cap ∧ RowsRel w Z e xs ad.block ad.off := by
 simp only [DRel, he]
theorem DRel.mp_iff {w : World} {Z : Nat → Prop} {e : Nat} {xs : List (List D)} {v : Value} (he : isMap e = true) :
  DRel w Z (.sl e xs) v ↔ ∃ b, v = mpV e b ∧ Z b ∧ MapAt w Z e xs b := by
 simp only [DRel, he, MapAt]
 cases isIt e <;> rfl
theorem cell_of_heap {w w' : World} {b : Nat} (h : w'.heap[b]? = w.heap[b]?) (o : Nat) (sp : Option Nat) : w'.cell? ⟨b, o, sp⟩ = w.cell? ⟨b, o, sp⟩ := by
 simp only [World.cell?, h]
section mono
set_option linter.unusedSectionVars false
variable {w w' : World} {Z Z' : Nat → Prop} (hZ : ∀ b, Z b → w'.heap[b]? = w.heap[b]? ∧ Z' b)
include hZ
mutual
theorem DRel.mono : ∀ (d : D) (v : Value), DRel w Z d v → DRel w' Z' d v
 | .int _ _, _, h => h
 | .bool _, _, h => h
 | .str _, _, h => h
 | .nil, _, h => h
 | .nul _, _, h => h
 | .sl e xs, v, h => by
  by_cases he : isMap e = true
  ·rw [DRel.mp_iff he] at h ⊢
   obtain ⟨b, h1, h2, h3⟩ := h
   refine ⟨b, h1, (hZ _ h2).2, ?_⟩
   by_cases hi : isIt e = true
   ·exact (MapAt.it hi).2 (ItRel.mono xs b (hZ _ h2).1 ((MapAt.it hi).1 h3))
   ·have hi : isIt e = false := by simpa using hi
    obtain ⟨es, clk, es', h3, h4, h5, h6⟩ := (MapAt.mu hi).1 h3
    exact (MapAt.mu hi).2 ⟨es, clk, es', by rw [(hZ _ h2).1]; exact h3, h4, EntsRel.mono xs _ h5, h6⟩
  ·have he : isMap e = false := by simpa using he
   rw [DRel.sl_iff he] at h ⊢
   obtain ⟨ad, cap, h1, h2, h3, h5⟩ := h
   rcases h2 with h2 | ⟨h2, h4⟩
   ·have : xs = [] := List.length_eq_zero_iff.1 (by omega)
    subst this
    exact ⟨ad, cap, h1, .inl h2, h3, trivial⟩
   ·exact ⟨ad, cap, h1, .inr ⟨h2, (hZ _ h4).2⟩, h3, RowsRel.mono e xs _ _ (hZ _ h4).1 h5⟩
theorem RowRel.mono : ∀ (ds : List D) (b o : Nat), w'.heap[b]? = w.heap[b]? → RowRel w Z ds b o → RowRel w' Z' ds b o
 | [], _, _, _, _ => trivial
 | d :: ds, b, o, hb, h => by
  obtain ⟨⟨v, h1, h2⟩, h3⟩ := h
  exact ⟨⟨v, by rw [cell_of_heap hb]; exact h1, DRel.mono d v h2⟩, RowRel.mono ds b (o + 1) hb h3⟩
theorem RowsRel.mono (e : Nat) : ∀ (xs : List (List D)) (b o : Nat), w'.heap[b]? = w.heap[b]? → RowsRel w Z e xs b o → RowsRel w' Z' e xs b o
 | [], _, _, _, _ => trivial
 | x :: xs, b, o, hb, h => ⟨h.1, RowRel.mono x b o hb h.2.1, RowsRel.mono e xs b (o + e) hb h.2.2⟩
theorem CellsRel.mono : ∀ (ds : List D) (vs : List Value), CellsRel w Z ds vs → CellsRel w' Z' ds vs
 | [], [], _ => trivial
 | d :: ds, v :: vs, h => ⟨DRel.mono d v h.1, CellsRel.mono ds vs h.2⟩
theorem ItRel.mono : ∀ (xs : List (List D)) (b : Nat), w'.heap[b]? = w.heap[b]? → ItRel w Z xs b → ItRel w' Z' xs b
 | [], _, _, h => h.elim
 | x :: rest, b, hb, h => by
  obtain ⟨m, since, seen, stepped, h1, h2, h3⟩ := h
  exact ⟨m, since, seen, stepped, by rw [hb]; exact h1, CellsRel.mono x _ h2, h3⟩
theorem EntsRel.mono : ∀ (xs : List (List D)) (es : List MapEntry), EntsRel w Z xs es → EntsRel w' Z' xs es
 | [], [], _ => trivial
 | x :: xs, en :: es, h => ⟨CellsRel.mono x _ h.1, EntsRel.mono xs es h.2⟩
end
theorem MapAt.mono (e : Nat) (xs : List (List D)) (b : Nat) (hb : w'.heap[b]? = w.heap[b]?) (h : MapAt w Z e xs b) : MapAt w' Z' e xs b := by
 by_cases hi : isIt e = true
 ·exact (MapAt.it hi).2 (ItRel.mono hZ xs b hb ((MapAt.it hi).1 h))
 ·have hi : isIt e = false := by simpa using hi
  obtain ⟨es, clk, es', h3, h4, h5, h6⟩ := (MapAt.mu hi).1 h
  exact (MapAt.mu hi).2 ⟨es, clk, es', by rw [hb]; exact h3, h4, EntsRel.mono hZ xs _ h5, h6⟩
end mono
section rows
variable {w : World} {Z : Nat → Prop} {b e : Nat}
theorem RowRel.get : ∀ {ds : List D} {o j : Nat} {d : D}, RowRel w Z ds b o → ds[j]? = some d → ∃ v, w.cell? ⟨b, o + j, none⟩ = some v ∧ DRel w Z d v
 | [], _, _, _, _, h => by simp at h
 | x :: ds, o, 0, d, h, hj => by
  simp only [List.getElem?_cons_zero, Option.some.injEq] at hj
  subst hj
  exact h.1
 | x :: ds, o, j + 1, d, h, hj => by
  have := RowRel.get (j := j) h.2 (by simpa using hj)
  rw [show o + (j + 1) = o + 1 + j by omega]
  exact this
theorem RowRel.drop : ∀ {ds : List D} {o : Nat} (j : Nat), RowRel w Z ds b o → RowRel w Z (ds.drop j) b (o + j)
 | ds, o, 0, h => by simpa using h
 | [], o, j + 1, _ => by simp [RowRel]
 | x :: ds, o, j + 1, h => by
  have := RowRel.drop (ds := ds) (o := o + 1) j h.2
  rw [show o + (j + 1) = o + 1 + j by omega]
  simpa using this
theorem RowRel.take : ∀ {ds : List D} {o : Nat} (j : Nat), RowRel w Z ds b o → RowRel w Z (ds.take j) b o
 | ds, o, 0, h => by simp [RowRel]
 | [], o, j + 1, _ => by simp [RowRel]
 | x :: ds, o, j + 1, h => ⟨h.1, RowRel.take j h.2⟩
theorem RowsRel.append : ∀ {xs ys : List (List D)} {o : Nat}, RowsRel w Z e xs b o → RowsRel w Z e ys b (o + xs.length * e) → RowsRel w Z e (xs ++ ys) b o
 | [], ys, o, _, h => by simpa using h
 | x :: xs, ys, o, h, k => ⟨h.1, h.2.1, RowsRel.append h.2.2 (by rw [show o + e + xs.length * e = o + (x :: xs).length * e by simp [Nat.add_mul]; omega]; exact k)⟩
theorem RowsRel.get : ∀ {xs : List (List D)} {o i : Nat} {x : List D}, RowsRel w Z e xs b o → xs[i]? = some x → x.length = e ∧ RowRel w Z x b (o + i * e)
 | [], _, _, _, _, h => by simp at h
 | y :: xs, o, 0, x, h, hj => by
  simp only [List.getElem?_cons_zero, Option.some.injEq] at hj
  subst hj
  exact ⟨h.1, by simpa using h.2.1⟩
 | y :: xs, o, i + 1, x, h, hj => by
  have := RowsRel.get (i := i) h.2.2 (by simpa using hj)
  rw [show o + (i + 1) * e = o + e + i * e by rw [Nat.add_mul]; omega]
  exact this
theorem RowsRel.drop : ∀ {xs : List (List D)} {o : Nat} (k : Nat), RowsRel w Z e xs b o → RowsRel w Z e (xs.drop k) b (o + k * e)
 | xs, o, 0, h => by simpa using h
 | [], o, k + 1, _ => by simp [RowsRel]
 | x :: xs, o, k + 1, h => by
  have := RowsRel.drop (xs := xs) (o := o + e) k h.2.2
  rw [show o + (k + 1) * e = o + e + k * e by rw [Nat.add_mul]; omega]
  simpa using this
theorem RowsRel.take : ∀ {xs : List (List D)} {o : Nat} (k : Nat), RowsRel w Z e xs b o → RowsRel w Z e (xs.take k) b o
 | xs, o, 0, h => by simp [RowsRel]
 | [], o, k + 1, _ => by simp [RowsRel]
 | x :: xs, o, k + 1, h => ⟨h.1, h.2.1, RowsRel.take k h.2.2⟩
theorem RowsRel.of_get : ∀ {xs : List (List D)} {o : Nat}, (∀ (i : Nat) x, xs[i]? = some x → x.length = e ∧ RowRel w Z x b (o + i * e)) → RowsRel w Z e xs b o
 | [], _, _ => trivial
 | x :: xs, o, h => ⟨(h 0 x rfl).1, by simpa using (h 0 x rfl).2, RowsRel.of_get fun i y hy => by
   have := h (i + 1) y (by simpa using hy)
   rw [show o + (i + 1) * e = o + e + i * e by rw [Nat.add_mul]; omega] at this
   exact this⟩
theorem RowRel.of_get : ∀ {ds : List D} {o : Nat}, (∀ (j : Nat) d, ds[j]? = some d → ∃ v, w.cell? ⟨b, o + j, none⟩ = some v ∧ DRel w Z d v) → RowRel w Z ds b o
 | [], _, _ => trivial
 | d :: ds, o, h => ⟨h 0 d rfl, RowRel.of_get fun j y hy => by
   have := h (j + 1) y (by simpa using hy)
   rw [show o + (j + 1) = o + 1 + j by omega] at this
   exact this⟩
theorem RowsRel.len {xs : List (List D)} {o : Nat} (h : RowsRel w Z e xs b o) : ∀ x ∈ xs, x.length = e := by
 intro x hx
 obtain ⟨i, hi⟩ := List.getElem?_of_mem hx
 exact (h.get hi).1
end rows
structure Ctx where
 P : Program
 N : Nat
 base : Nat
 w0 : World
 E0 : Nat → Prop
 Z0 : Nat → Prop
 argv : Array Value
 β0 : Key → Option Nat
abbrev Holder := Res × Option Nat
def flat : Value → List Value
 | .agg cs => cs.toList
 | .tuple vs => vs.toList.flatMap fun v => v.cells.toList
 | v => [v]
theorem cells_of_isOne {v : Value} (h : isOne v = true) : v.cells = #[v] := by cases v <;> simp_all [isOne, Value.cells]
theorem flat_of_isOne {v : Value} (h : isOne v = true) : flat v = [v] := by cases v <;> simp_all [isOne, flat]
def hdr (K : Ctx) (β : Key → Option Nat) (a : Act) (w : World) : Res → Nat → Option Value
 | .tmp t, j => (flat (a.tmps.getD t undef))[j]?
 | .box k, j => (β k).bind fun b => w.cell? ⟨b, j, none⟩
 | .arg i, j => (flat (K.argv.getD i undef))[j]?
def CRel (K : Ctx) (β : Key → Option Nat) (Z : Nat → Prop) (s : St) (a : Act) (w : World) : C → Value → Prop
 | .d x, v => DRel w Z x v
 | .own e xs, v => match isMap e with
  | false => ∃ (ad : Addr) (cap : Nat), v = .slice (some ad) xs.length cap ∧ ad.spot = none ∧ xs.length ≤ cap ∧ RowsRel w Z e xs ad.block ad.off
  | true => ∃ b, v = mpV e b ∧ MapAt w Z e xs b
 | .bor r j hv cv e k xs, v => match isMap e with
  | true => ∃ b, v = mpV e b ∧ hv ≤ (s r).hv ∧ cv ≤ (s r).cv ∧
   ((s r).hv = hv → (s r).at j ≠ .dead → hdr K β a w r j = some (mpV e b) ∧ ∃ ys, ((s r).at j = .own e ys ∨ (s r).at j = .d (.sl e ys)) ∧ ((s r).cv = cv → xs = ys))
  | false => ∃ (ad' : Addr) (cap' : Nat), v = .slice (some ad') xs.length cap' ∧ ad'.spot = none ∧ xs.length ≤ cap' ∧ hv ≤ (s r).hv ∧ cv ≤ (s r).cv ∧
   ((s r).hv = hv → (s r).at j ≠ .dead → ∃ (ad : Addr) (len cap : Nat), hdr K β a w r j = some (.slice (some ad) len cap) ∧ ad.spot = none ∧ ad'.block = ad.block ∧
    (ad'.off = ad.off + k * e ∨ cap' = 0) ∧ ad'.off ≤ ad.off + cap * e ∧ cap' + k = cap ∧ k + xs.length ≤ len ∧ len ≤ cap ∧
    ∃ ys, ((s r).at j = .own e ys ∨ (s r).at j = .d (.sl e ys)) ∧ ((s r).cv = cv → xs = (ys.drop k).take xs.length))
 | .ea r j hv e i off, v => ∃ (b o : Nat), v = .pointer (some ⟨b, o, none⟩) ∧ hv ≤ (s r).hv ∧
   ((s r).hv = hv → (s r).at j ≠ .dead → ∃ (ad : Addr) (len cap : Nat), hdr K β a w r j = some (.slice (some ad) len cap) ∧ ad.spot = none ∧ b = ad.block ∧ o = ad.off + i * e + off ∧
    ∃ ys, (s r).at j = .own e ys ∨ (s r).at j = .d (.sl e ys))
 | .da xs, v => ∃ (b o : Nat), v = .pointer (some ⟨b, o, none⟩) ∧ Z b ∧ RowRel w Z xs b o
 | .ptr k off, v => ∃ b, β k = some b ∧ v = .pointer (some ⟨b, off, none⟩)
 | .clo f caps, v => ∃ vs : Array Value, v = .func (.func f) #[] vs ∧ All2 (fun u p => ∃ b, β p.1 = some b ∧ u = .pointer (some ⟨b, p.2, none⟩)) vs.toList caps
 | .dead, _ => True
section
variable {K : Ctx} {β : Key → Option Nat} {Z : Nat → Prop} {s : St} {a : Act} {w : World} {e : Nat} {v : Value}
theorem CRel.own_sl {xs : List (List D)} (he : isMap e = false) : CRel K β Z s a w (.own e xs) v ↔ ∃ (ad : Addr) (cap : Nat), v = .slice (some ad) xs.length cap ∧ ad.spot = none ∧ xs.length ≤ cap ∧ RowsRel w Z e xs ad.block ad.off := by
 simp only [CRel, he]
theorem CRel.own_mp {xs : List (List D)} (he : isMap e = true) : CRel K β Z s a w (.own e xs) v ↔ ∃ b, v = mpV e b ∧ MapAt w Z e xs b := by
 simp only [CRel, he]
theorem CRel.bor_sl {r : Res} {j hv cv k : Nat} {xs : List (List D)} (he : isMap e = false) : CRel K β Z s a w (.bor r j hv cv e k xs) v ↔
  ∃ (ad' : Addr) (cap' : Nat), v = .slice (some ad') xs.length cap' ∧ ad'.spot = none ∧ xs.length ≤ cap' ∧ hv ≤ (s r).hv ∧ cv ≤ (s r).cv ∧
   ((s r).hv = hv → (s r).at j ≠ .dead → ∃ (ad : Addr) (len cap : Nat), hdr K β a w r j = some (.slice (some ad) len cap) ∧ ad.spot = none ∧ ad'.block = ad.block ∧
    (ad'.off = ad.off + k * e ∨ cap' = 0) ∧ ad'.off ≤ ad.off + cap * e ∧ cap' + k = cap ∧ k + xs.length ≤ len ∧ len ≤ cap ∧
    ∃ ys, ((s r).at j = .own e ys ∨ (s r).at j = .d (.sl e ys)) ∧ ((s r).cv = cv → xs = (ys.drop k).take xs.length)) := by
 simp only [CRel, he]
theorem CRel.bor_mp {r : Res} {j hv cv k : Nat} {xs : List (List D)} (he : isMap e = true) : CRel K β Z s a w (.bor r j hv cv e k xs) v ↔
  ∃ b, v = mpV e b ∧ hv ≤ (s r).hv ∧ cv ≤ (s r).cv ∧
   ((s r).hv = hv → (s r).at j ≠ .dead → hdr K β a w r j = some (mpV e b) ∧ ∃ ys, ((s r).at j = .own e ys ∨ (s r).at j = .d (.sl e ys)) ∧ ((s r).cv = cv → xs = ys)) := by
 simp only [CRel, he]
end
theorem All2.length {α β : Type} {R : α → β → Prop} : ∀ {as : List α} {bs : List β}, All2 R as bs → as.length = bs.length
 | [], [], _ => rfl
 | _ :: _, _ :: _, h => by simp [All2.length h.2]
theorem All2.mono {α β : Type} {R R' : α → β → Prop} (hR : ∀ a b, R a b → R' a b) : ∀ {as : List α} {bs : List β}, All2 R as bs → All2 R' as bs
 | [], [], _ => trivial
 | _ :: _, _ :: _, h => ⟨hR _ _ h.1, All2.mono hR h.2⟩
theorem All2.mono_mem {α β : Type} {R R' : α → β → Prop} : ∀ {as : List α} {bs : List β}, (∀ a b, b ∈ bs → R a b → R' a b) → All2 R as bs → All2 R' as bs
 | [], [], _, _ => trivial
 | _ :: _, _ :: _, hR, h => ⟨hR _ _ (List.mem_cons_self ..) h.1, All2.mono_mem (fun a b hb => hR a b (List.mem_cons_of_mem _ hb)) h.2⟩
theorem All2.get {α β : Type} {R : α → β → Prop} : ∀ {as : List α} {bs : List β} {j : Nat} {b : β}, All2 R as bs → bs[j]? = some b → ∃ a, as[j]? = some a ∧ R a b
 | [], [], _, _, _, h => by simp at h
 | a :: as, b :: bs, 0, c, h, hj => by
  simp only [List.getElem?_cons_zero, Option.some.injEq] at hj
  subst hj
  exact ⟨a, rfl, h.1⟩
 | a :: as, b :: bs, j + 1, c, h, hj => by
  obtain ⟨x, h1, h2⟩ := All2.get (j := j) h.2 (by simpa using hj)
  exact ⟨x, by simpa using h1, h2⟩
theorem All2.of_get {α β : Type} {R : α → β → Prop} : ∀ {as : List α} {bs : List β}, as.length = bs.length → (∀ (j : Nat) a b, as[j]? = some a → bs[j]? = some b → R a b) → All2 R as bs
 | [], [], _, _ => trivial
 | a :: as, b :: bs, hl, h => ⟨h 0 a b rfl rfl, All2.of_get (by simpa using hl) fun j x y hx hy => h (j + 1) x y (by simpa using hx) (by simpa using hy)⟩
 | [], _ :: _, hl, _ => by simp at hl
 | _ :: _, [], hl, _ => by simp at hl
theorem All2.append {α β : Type} {R : α → β → Prop} : ∀ {as as' : List α} {bs bs' : List β}, All2 R as bs → All2 R as' bs' → All2 R (as ++ as') (bs ++ bs')
 | [], _, [], _, _, h => h
 | _ :: _, _, _ :: _, _, h, k => ⟨h.1, All2.append h.2 k⟩
theorem All2.drop {α β : Type} {R : α → β → Prop} : ∀ {as : List α} {bs : List β} (n : Nat), All2 R as bs → All2 R (as.drop n) (bs.drop n)
 | _, _, 0, h => h
 | [], [], _ + 1, _ => trivial
 | _ :: _, _ :: _, n + 1, h => All2.drop n h.2
theorem All2.take {α β : Type} {R : α → β → Prop} : ∀ {as : List α} {bs : List β} (n : Nat), All2 R as bs → All2 R (as.take n) (bs.take n)
 | as, bs, 0, h => by simp [All2]
 | [], [], _ + 1, _ => trivial
 | _ :: _, _ :: _, n + 1, h => ⟨h.1, All2.take n h.2⟩
def TRel (R : C → Value → Prop) (v : Value) (x : Bool × List C) : Prop :=
 if x.1 then ∃ ws : Array Value, v = .agg ws ∧ All2 (fun u c => R c u) ws.toList x.2 else ∃ c, x.2 = [c] ∧ isOne v = true ∧ R c v
def SVRel (R : C → Value → Prop) (v : Value) : SV → Prop
 | .one c => isOne v = true ∧ R c v
 | .agg cs => ∃ ws : Array Value, v = .agg ws ∧ All2 (fun u c => R c u) ws.toList cs
 | .tup xs => ∃ vs : Array Value, v = .tuple vs ∧ All2 (TRel R) vs.toList xs
 | .undef => True
theorem TRel.flat {R : C → Value → Prop} {v : Value} {x : Bool × List C} (h : TRel R v x) : All2 (fun u c => R c u) v.cells.toList x.2 := by
 unfold TRel at h
 split at h
 ·obtain ⟨ws, rfl, h⟩ := h; exact h
 ·obtain ⟨c, h1, h2, h3⟩ := h
  rw [cells_of_isOne h2, h1]
  exact ⟨h3, trivial⟩
theorem tup_flat {R : C → Value → Prop} : ∀ {vs : List Value} {xs : List (Bool × List C)}, All2 (TRel R) vs xs → All2 (fun u c => R c u) (vs.flatMap fun v => v.cells.toList) (xs.flatMap (·.2))
 | [], [], _ => trivial
 | _ :: _, _ :: _, h => by
  simp only [List.flatMap_cons]
  exact All2.append (TRel.flat h.1) (tup_flat h.2)
theorem SVRel.flat {R : C → Value → Prop} {v : Value} {sv : SV} (h : SVRel R v sv) (hu : sv ≠ .undef) : All2 (fun u c => R c u) (flat v) sv.cells := by
 cases sv with
 | one c => rw [flat_of_isOne h.1]; exact ⟨h.2, trivial⟩
 | agg cs => obtain ⟨ws, rfl, h⟩ := h; exact h
 | tup xs => obtain ⟨vs, rfl, h⟩ := h; exact tup_flat h
 | undef => exact absurd rfl hu
theorem SVRel.cell {R : C → Value → Prop} {v : Value} {sv : SV} {j : Nat} {c : C} (h : SVRel R v sv) (hc : sv.cells[j]? = some c) : ∃ u, (Vs.flat v)[j]? = some u ∧ R c u := by
 by_cases hu : sv = .undef
 ·subst hu; simp [SV.cells] at hc
 ·exact (h.flat hu).get hc
theorem SVRel.mono {R R' : C → Value → Prop} {v : Value} {sv : SV} (hR : ∀ c u, c ∈ sv.cells → R c u → R' c u) (h : SVRel R v sv) : SVRel R' v sv := by
 cases sv with
 | one c => exact ⟨h.1, hR _ _ (by simp [SV.cells]) h.2⟩
 | agg cs => obtain ⟨ws, h1, h2⟩ := h; exact ⟨ws, h1, h2.mono_mem fun u c hc hr => hR c u hc hr⟩
 | tup xs =>
  obtain ⟨vs, h1, h2⟩ := h
  refine ⟨vs, h1, h2.mono_mem fun v x hx hr => ?_⟩
  unfold TRel at hr ⊢
  split
  ·rename_i hb
   simp only [hb, if_true] at hr
   obtain ⟨ws, h3, h4⟩ := hr
   exact ⟨ws, h3, h4.mono_mem fun u c hc hr => hR c u (List.mem_flatMap.2 ⟨x, hx, hc⟩) hr⟩
  ·rename_i hb
   simp only [hb] at hr
   obtain ⟨c, h3, h4, h5⟩ := hr
   exact ⟨c, h3, h4, hR c _ (List.mem_flatMap.2 ⟨x, hx, by simp [h3]⟩) h5⟩
 | undef => trivial
theorem All2.set {α β : Type} {R : α → β → Prop} : ∀ {as : List α} {bs : List β} {j : Nat} {b : β}, All2 R as bs → (∀ a, as[j]? = some a → R a b) → All2 R as (bs.set j b)
 | [], [], _, _, _, _ => trivial
 | a :: as, c :: bs, 0, b, h, hb => ⟨hb a rfl, h.2⟩
 | a :: as, c :: bs, j + 1, b, h, hb => ⟨h.1, All2.set h.2 fun x hx => hb x (by simpa using hx)⟩
theorem TRel.set {R : C → Value → Prop} {v : Value} {b : Bool} {cs : List C} {j : Nat} {c : C} (h : TRel R v (b, cs)) (hj : j < cs.length) (hc : ∀ u, (v.cells.toList)[j]? = some u → R c u) : TRel R v (b, cs.set j c) := by
 unfold TRel at *
 cases b with
 | true =>
  simp only [if_true] at h ⊢
  obtain ⟨ws, rfl, h⟩ := h
  exact ⟨ws, rfl, h.set hc⟩
 | false =>
  simp only [Bool.false_eq_true, if_false] at h ⊢
  obtain ⟨d, h1, h2, h3⟩ := h
  rw [h1] at hj ⊢
  obtain rfl : j = 0 := by simpa using hj
  exact ⟨c, by simp, h2, hc v (by rw [cells_of_isOne h2]; rfl)⟩
theorem tup_set {R : C → Value → Prop} : ∀ {vs : List Value} {xs : List (Bool × List C)} {j : Nat} {c : C}, All2 (TRel R) vs xs → (∀ u, (vs.flatMap fun v => v.cells.toList)[j]? = some u → R c u) → All2 (TRel R) vs (setTup xs j c)
 | [], [], _, _, _, _ => trivial
 | v :: vs, (b, cs) :: xs, j, c, h, hc => by
  simp only [setTup]
  have hl : v.cells.toList.length = cs.length := (TRel.flat h.1).length
  split
  ·rename_i hj
   exact ⟨TRel.set h.1 hj fun u hu => hc u (by simp only [List.flatMap_cons]; rw [List.getElem?_append_left (by omega)]; exact hu), h.2⟩
  ·rename_i hj
   exact ⟨h.1, tup_set h.2 fun u hu => hc u (by simp only [List.flatMap_cons]; rw [List.getElem?_append_right (by omega), hl]; exact hu)⟩
theorem SVRel.setCell {R : C → Value → Prop} {v : Value} {sv : SV} {j : Nat} {c : C} (h : SVRel R v sv) (hc : ∀ u, (Vs.flat v)[j]? = some u → R c u) : SVRel R v (sv.setCell j c) := by
 cases sv with
 | one d =>
  simp only [SV.setCell]
  split
  ·rename_i hj; subst hj; exact ⟨h.1, hc v (by rw [flat_of_isOne h.1]; rfl)⟩
  ·exact h
 | agg cs => obtain ⟨ws, rfl, h⟩ := h; exact ⟨ws, rfl, h.set hc⟩
 | tup xs => obtain ⟨vs, rfl, h⟩ := h; exact ⟨vs, rfl, tup_set h hc⟩
 | undef => trivial
theorem setTup_cells : ∀ (xs : List (Bool × List C)) (j : Nat) (c : C), (setTup xs j c).flatMap (·.2) = (xs.flatMap (·.2)).set j c
 | [], j, c => by simp [setTup]
 | (b, cs) :: xs, j, c => by
  simp only [setTup]
  split
  ·rename_i h; simp [List.set_append, h]
  ·rename_i h
   simp only [List.flatMap_cons, setTup_cells xs, List.set_append, if_neg h]
theorem setCell_cells (sv : SV) (j : Nat) (c : C) : (sv.setCell j c).cells = sv.cells.set j c := by
 cases sv with
 | one d =>
  simp only [SV.setCell]
  split
  ·rename_i h; subst h; simp [SV.cells]
  ·rename_i h
   cases j with
   | zero => exact absurd rfl h
   | succ j => simp [SV.cells]
 | agg cs => simp [SV.setCell, SV.cells]
 | tup xs => simp [SV.setCell, SV.cells, setTup_cells]
 | undef => simp [SV.setCell, SV.cells]
end Go.Vs
namespace Go.Vs
theorem All2.split {α β : Type} {R : α → β → Prop} : ∀ {as as' : List α} {bs bs' : List β}, as.length = bs.length → All2 R (as ++ as') (bs ++ bs') → All2 R as bs ∧ All2 R as' bs'
 | [], _, [], _, _, h => ⟨trivial, h⟩
 | a :: as, _, b :: bs, _, hl, h => by
  obtain ⟨h1, h2⟩ := h
  obtain ⟨h3, h4⟩ := All2.split (by simpa using hl) h2
  exact ⟨⟨h1, h3⟩, h4⟩
 | [], _, _ :: _, _, hl, _ => by simp at hl
 | _ :: _, _, [], _, hl, _ => by simp at hl
def Tru (_ : C) (_ : Value) : Prop := True
theorem tup_of_flat {R : C → Value → Prop} : ∀ {vs : List Value} {xs : List (Bool × List C)}, All2 (TRel Tru) vs xs →
  All2 (fun u c => R c u) (vs.flatMap fun v => v.cells.toList) (xs.flatMap (·.2)) → All2 (TRel R) vs xs
 | [], [], _, _ => trivial
 | v :: vs, x :: xs, h, k => by
  simp only [List.flatMap_cons] at k
  obtain ⟨k1, k2⟩ := All2.split (TRel.flat h.1).length k
  refine ⟨?_, tup_of_flat h.2 k2⟩
  have h1 := h.1
  unfold TRel at h1 ⊢
  split
  ·rename_i hb
   simp only [hb, if_true] at h1
   obtain ⟨ws, rfl, _⟩ := h1
   exact ⟨ws, rfl, k1⟩
  ·rename_i hb
   simp only [hb] at h1
   obtain ⟨c, h2, h3, _⟩ := h1
   rw [cells_of_isOne h3, h2] at k1
   exact ⟨c, h2, h3, k1.1⟩
theorem SVRel.of_flat {R : C → Value → Prop} {v : Value} {sv : SV} (h : SVRel Tru v sv) (k : sv ≠ .undef → All2 (fun u c => R c u) (Vs.flat v) sv.cells) : SVRel R v sv := by
 cases sv with
 | one c =>
  have := k (by simp)
  rw [flat_of_isOne h.1] at this
  exact ⟨h.1, this.1⟩
 | agg cs => obtain ⟨ws, rfl, _⟩ := h; exact ⟨ws, rfl, k (by simp)⟩
 | tup xs => obtain ⟨vs, rfl, h⟩ := h; exact ⟨vs, rfl, tup_of_flat h (k (by simp))⟩
 | undef => trivial
theorem SVRel.shape {R : C → Value → Prop} {v : Value} {sv : SV} (h : SVRel R v sv) : SVRel Tru v sv := SVRel.mono (fun _ _ _ _ => trivial) h
theorem SVRel.monoI {R R' : C → Value → Prop} {v : Value} {sv : SV} (hR : ∀ (j : Nat) c u, sv.cells[j]? = some c → (Vs.flat v)[j]? = some u → R c u → R' c u) (h : SVRel R v sv) : SVRel R' v sv := by
 refine SVRel.of_flat h.shape fun hu => ?_
 have hf := h.flat hu
 exact All2.of_get hf.length fun j u c hu hc => by
  obtain ⟨u', h1, h2⟩ := hf.get hc
  rw [hu] at h1
  cases h1
  exact hR j c u hc hu h2
theorem at_cells {x : RV} {j : Nat} {c : C} (h : x.at j = c) (hc : c ≠ .dead) : x.v.cells[j]? = some c := by
 unfold RV.at at h
 rw [List.getD_eq_getElem?_getD] at h
 cases hx : x.v.cells[j]? with
 | none => rw [hx] at h; exact absurd h.symm hc
 | some d => rw [hx] at h; exact congrArg some h
theorem at_of_cells {x : RV} {j : Nat} {c : C} (h : x.v.cells[j]? = some c) : x.at j = c := by
 simp [RV.at, List.getD_eq_getElem?_getD, h]
def EvoC (same : Prop) (c c' : C) : Prop :=
 c = c' ∨ (∃ e ys, c = .own e ys ∧ c' = .d (.sl e ys)) ∨ (¬ same ∧ ∃ e ys ys', c = .own e ys ∧ (c' = .own e ys' ∨ c' = .d (.sl e ys')))
def Evo (x x' : RV) : Prop :=
 x.hv ≤ x'.hv ∧ x.cv ≤ x'.cv ∧ (x'.hv = x.hv → ∀ j, x'.at j ≠ .dead → EvoC (x'.cv = x.cv) (x.at j) (x'.at j))
theorem Evo.refl (x : RV) : Evo x x := ⟨Nat.le_refl _, Nat.le_refl _, fun _ _ _ => .inl rfl⟩
theorem Evo.bump {x x' : RV} (h : x'.hv = x.hv + 1) (hc : x'.cv = x.cv) : Evo x x' := ⟨by omega, by omega, fun e => by omega⟩
theorem CRel.step {K K' : Ctx} {β β' : Key → Option Nat} {Z Z' : Nat → Prop} {s s' : St} {a a' : Act} {w w' : World} (hβ : ∀ k b, β k = some b → β' k = some b)
  (hZ : ∀ b, Z b → w'.heap[b]? = w.heap[b]? ∧ Z' b) (hs : ∀ r, Evo (s r) (s' r))
  (hh : ∀ r j, (s' r).hv = (s r).hv → (s' r).at j ≠ .dead → hdr K' β' a' w' r j = hdr K β a w r j) {c : C} {v : Value}
  (hown : ∀ (e : Nat) (xs : List (List D)) (b : Nat), c = .own e xs → blkOf v = some b → w'.heap[b]? = w.heap[b]?)
  (h : CRel K β Z s a w c v) : CRel K' β' Z' s' a' w' c v := by
 cases c with
 | d x => exact DRel.mono hZ x v h
 | own e xs =>
  by_cases he : isMap e = true
  ·rw [CRel.own_mp he] at h ⊢
   obtain ⟨b, h1, h2⟩ := h
   exact ⟨b, h1, MapAt.mono hZ e xs b (hown e xs b rfl (by rw [h1]; exact mpV_blk ..)) h2⟩
  ·have he : isMap e = false := by simpa using he
   rw [CRel.own_sl he] at h ⊢
   obtain ⟨ad, cap, h1, h2, h3, h4⟩ := h
   exact ⟨ad, cap, h1, h2, h3, RowsRel.mono hZ e xs _ _ (hown e xs ad.block rfl (by rw [h1]; rfl)) h4⟩
 | bor r j hv cv e k xs =>
  have hpast : ∀ hhv : (s' r).hv = hv, hv ≤ (s r).hv → (s' r).at j ≠ .dead → (s' r).hv = (s r).hv ∧ (s r).hv = hv ∧ EvoC ((s' r).cv = (s r).cv) ((s r).at j) ((s' r).at j) ∧ (s r).at j ≠ .dead := by
   intro hhv hle hal
   obtain ⟨e1, e2, e3⟩ := hs r
   have hsame : (s' r).hv = (s r).hv := by omega
   have hev := e3 hsame j hal
   refine ⟨hsame, by omega, hev, ?_⟩
   rcases hev with h | ⟨e, ys, h, _⟩ | ⟨_, e, ys, ys', h, _⟩
   ·rw [h]; exact hal
   ·rw [h]; simp
   ·rw [h]; simp
  by_cases he : isMap e = true
  ·rw [CRel.bor_mp he] at h ⊢
   obtain ⟨b, h1, h4, h5, h6⟩ := h
   obtain ⟨e1, e2, e3⟩ := hs r
   refine ⟨b, h1, by omega, by omega, fun hhv hal => ?_⟩
   obtain ⟨hsame, hhv0, hev, hal0⟩ := hpast hhv h4 hal
   obtain ⟨g1, ys, g9, g10⟩ := h6 hhv0 hal0
   refine ⟨by rw [hh r j hsame hal]; exact g1, ?_⟩
   rcases hev with h | ⟨e', ys', h, h'⟩ | ⟨hn, e', ys', zs, h, h'⟩
   ·exact ⟨ys, by rw [← h]; exact g9, fun hcv => g10 (by omega)⟩
   ·rw [h] at g9
    rcases g9 with g9 | g9
    ·cases g9; exact ⟨ys, .inr h', fun hcv => g10 (by omega)⟩
    ·cases g9
   ·rw [h] at g9
    rcases g9 with g9 | g9
    ·cases g9; exact ⟨zs, h', fun hcv => absurd (by omega) hn⟩
    ·cases g9
  have he : isMap e = false := by simpa using he
  rw [CRel.bor_sl he] at h ⊢
  obtain ⟨ad', cap', h1, h2, h3, h4, h5, h6⟩ := h
  obtain ⟨e1, e2, e3⟩ := hs r
  refine ⟨ad', cap', h1, h2, h3, by omega, by omega, fun hhv hal => ?_⟩
  obtain ⟨hsame, hhv0, hev, hal0⟩ := hpast hhv h4 hal
  obtain ⟨ad, len, cap, g1, g2, g3, g4, g4b, g5, g6, g7, g8⟩ := h6 (by omega) hal0
  obtain ⟨ys, g9, g10⟩ := g8
  refine ⟨ad, len, cap, by rw [hh r j hsame hal]; exact g1, g2, g3, g4, g4b, g5, g6, g7, ?_⟩
  rcases hev with h | ⟨e', ys', h, h'⟩ | ⟨hn, e', ys', zs, h, h'⟩
  ·exact ⟨ys, by rw [← h]; exact g9, fun hcv => g10 (by omega)⟩
  ·rw [h] at g9
   rcases g9 with g9 | g9
   ·cases g9; exact ⟨ys, .inr h', fun hcv => g10 (by omega)⟩
   ·cases g9
  ·rw [h] at g9
   rcases g9 with g9 | g9
   ·cases g9; exact ⟨zs, h', fun hcv => absurd (by omega) hn⟩
   ·cases g9
 | ea r j hv e i off =>
  obtain ⟨b, o, h1, h2, h3⟩ := h
  obtain ⟨e1, e2, e3⟩ := hs r
  refine ⟨b, o, h1, by omega, fun hhv hal => ?_⟩
  have hsame : (s' r).hv = (s r).hv := by omega
  have hev := e3 hsame j hal
  have hal0 : (s r).at j ≠ .dead := by
   rcases hev with h | ⟨e, ys, h, _⟩ | ⟨_, e, ys, ys', h, _⟩
   ·rw [h]; exact hal
   ·rw [h]; simp
   ·rw [h]; simp
  obtain ⟨ad, len, cap, g1, g2, g3, g4, ys, g5⟩ := h3 (by omega) hal0
  refine ⟨ad, len, cap, by rw [hh r j hsame hal]; exact g1, g2, g3, g4, ?_⟩
  rcases hev with h | ⟨e', ys', h, h'⟩ | ⟨_, e', ys', zs, h, h'⟩
  ·exact ⟨ys, by rw [← h]; exact g5⟩
  ·rw [h] at g5
   rcases g5 with g5 | g5
   ·cases g5; exact ⟨ys, .inr h'⟩
   ·cases g5
  ·rw [h] at g5
   rcases g5 with g5 | g5
   ·cases g5; exact ⟨zs, h'⟩
   ·cases g5
 | da xs =>
  obtain ⟨b, o, h1, h2, h3⟩ := h
  exact ⟨b, o, h1, (hZ b h2).2, RowRel.mono hZ xs b o (hZ b h2).1 h3⟩
 | ptr k off => obtain ⟨b, h1, h2⟩ := h; exact ⟨b, hβ k b h1, h2⟩
 | clo f caps =>
  obtain ⟨vs, h1, h2⟩ := h
  exact ⟨vs, h1, h2.mono fun u p ⟨b, g1, g2⟩ => ⟨b, hβ _ b g1, g2⟩⟩
 | dead => trivial
def Wr (w : World) (b n : Nat) : Prop :=
 ∃ (cs : Array Value) (el : TypeId) (lo hi : Nat), w.heap[b]? = some (.cells cs el (lo, hi)) ∧ n ≤ cs.size ∧ ∀ o, o < cs.size → ¬ (lo ≤ o ∧ o < hi)
theorem Wr.mono {w w' : World} {b n m : Nat} (h : Wr w b n) (hb : w'.heap[b]? = w.heap[b]?) (hm : m ≤ n) : Wr w' b m := by
 obtain ⟨cs, el, lo, hi, h1, h2, h3⟩ := h
 exact ⟨cs, el, lo, hi, by rw [hb]; exact h1, by omega, h3⟩
def WrV (w : World) (e : Nat) : Value → Prop
 | .slice (some ad) _ cap => Wr w ad.block (ad.off + cap * e)
 | .map (some b) => ∃ (es : Array MapEntry) (clk : Nat), w.heap[b]? = some (.map es clk)
 | .pointer (some _) => True
 | _ => False
theorem WrV.mono {w w' : World} {e b : Nat} {u : Value} (h : WrV w e u) (hu : blkOf u = some b) (hb : w'.heap[b]? = w.heap[b]?) : WrV w' e u := by
 unfold WrV at *
 split at h
 ·rename_i ad len cap
  simp only [blkOf, Option.some.injEq] at hu
  subst hu
  exact h.mono hb (Nat.le_refl _)
 ·simp only [blkOf, Option.some.injEq] at hu
  subst hu
  rw [hb]; exact h
 ·trivial
 ·exact h
def Live : Value → Prop
 | .slice (some _) _ cap => cap ≠ 0
 | _ => True
theorem mpV_live (e b : Nat) : Live (mpV e b) := by unfold mpV; split <;> trivial
theorem mpV_wr {w : World} {Z : Nat → Prop} {e b : Nat} {xs : List (List D)} (e' : Nat) (h : MapAt w Z e xs b) : WrV w e' (mpV e b) := by
 by_cases hi : isIt e = true
 ·rw [mpV_it hi]; trivial
 ·have hi : isIt e = false := by simpa using hi
  rw [mpV_map hi]
  obtain ⟨es, clk, _, h1, _⟩ := (MapAt.mu hi).1 h
  exact ⟨es, clk, h1⟩
theorem DRel.live {w : World} {Z : Nat → Prop} {e b : Nat} {ys : List (List D)} {u : Value} (h : DRel w Z (.sl e ys) u) (hb : blkOf u = some b) (hl : Live u) : Z b := by
 by_cases he : isMap e = true
 ·obtain ⟨b', rfl, h2, _⟩ := (DRel.mp_iff he).1 h
  rw [mpV_blk, Option.some.injEq] at hb
  exact hb ▸ h2
 ·obtain ⟨ad2, cap2, rfl, h3, _⟩ := (DRel.sl_iff (by simpa using he)).1 h
  simp only [blkOf, Option.some.injEq] at hb
  exact hb ▸ (h3.resolve_left hl).2
def BoxRel (K : Ctx) (β : Key → Option Nat) (ω : Nat → Option Holder) (Z : Nat → Prop) (s : St) (a : Act) (w : World) (k : Key) : SV → Prop
 | .agg cs => ∃ (b : Nat) (ws : Array Value) (el : TypeId) (lo hi : Nat), β k = some b ∧ ω b = some (.box k, none) ∧ w.heap[b]? = some (.cells ws el (lo, hi)) ∧
   (∀ o, o < ws.size → ¬ (lo ≤ o ∧ o < hi)) ∧ All2 (fun u c => CRel K β Z s a w c u) ws.toList cs
 | .undef => β k = none
 | _ => False
structure Rel (K : Ctx) (β : Key → Option Nat) (ω : Nat → Option Holder) (Z : Nat → Prop) (s : St) (a : Act) (w : World) : Prop where
 size : a.tmps.size = K.N
 defers : a.defers = []
 os : w.os = K.w0.os
 tape : w.tape = K.w0.tape
 output : w.output = K.w0.output
 base : K.base ≤ w.heap.size
 frame : ∀ b, b < K.base → ¬ K.E0 b → w.heap[b]? = K.w0.heap[b]?
 zin : ∀ b, Z b → b < w.heap.size
 zold : ∀ b, K.Z0 b → Z b
 znew : ∀ b, Z b → K.Z0 b ∨ K.base ≤ b ∨ K.E0 b ∨ ∃ (i j e : Nat) (ys : List (List D)) (u : Value), (s (.arg i)).v.cells[j]? = some (.d (.sl e ys)) ∧ (flat (K.argv.getD i undef))[j]? = some u ∧ blkOf u = some b ∧ Live u
 tmps : ∀ t, SVRel (CRel K β Z s a w) (a.tmps.getD t undef) (s (.tmp t)).v
 args : ∀ i, SVRel (CRel K β Z s a w) (K.argv.getD i undef) (s (.arg i)).v
 boxes : ∀ k, BoxRel K β ω Z s a w k (s (.box k)).v
 own : ∀ (r : Res) (j e : Nat) (xs : List (List D)) (u : Value) (b : Nat), r.isArg = false → (s r).v.cells[j]? = some (.own e xs) → hdr K β a w r j = some u → blkOf u = some b → ω b = some (r, some j) ∧ WrV w e u
 argown : ∀ (i j e : Nat) (xs : List (List D)) (u : Value) (b : Nat), (s (.arg i)).v.cells[j]? = some (.own e xs) → (flat (K.argv.getD i undef))[j]? = some u → blkOf u = some b → b < K.base ∧ ¬ K.E0 b
 ωok : ∀ b h, ω b = some h → ¬ Z b ∧ b < w.heap.size ∧ (b < K.base → K.E0 b)
 βold : ∀ k b, K.β0 k = some b → β k = some b
section
variable {K : Ctx} {β : Key → Option Nat} {ω : Nat → Option Holder} {Z : Nat → Prop} {s : St} {a : Act} {w : World}
theorem BoxRel.cell (h : Rel K β ω Z s a w) {k : Key} {cs : List C} (hv : (s (.box k)).v = .agg cs) : ∃ (b : Nat) (ws : Array Value) (el : TypeId) (lo hi : Nat), β k = some b ∧ ω b = some (.box k, none) ∧
  w.heap[b]? = some (.cells ws el (lo, hi)) ∧ (∀ o, o < ws.size → ¬ (lo ≤ o ∧ o < hi)) ∧ All2 (fun u c => CRel K β Z s a w c u) ws.toList cs := by
 have := h.boxes k
 rw [hv] at this
 exact this
theorem hdr_box {k : Key} {b j : Nat} {ws : Array Value} {el : TypeId} {lo hi : Nat} (hb : β k = some b) (hw : w.heap[b]? = some (.cells ws el (lo, hi))) :
  hdr K β a w (.box k) j = ws.toList[j]? := by
 simp [hdr, hb, World.cell?, hw]
theorem Rel.cell (h : Rel K β ω Z s a w) {r : Res} {j : Nat} {c : C} (hc : (s r).v.cells[j]? = some c) : ∃ u, hdr K β a w r j = some u ∧ CRel K β Z s a w c u := by
 cases r with
 | tmp t => exact (h.tmps t).cell hc
 | arg i => exact (h.args i).cell hc
 | box k =>
  have hb := h.boxes k
  cases hv : (s (.box k)).v with
  | agg cs =>
   obtain ⟨b, ws, el, lo, hi, h1, h2, h3, h4, h5⟩ := BoxRel.cell h hv
   rw [hv] at hc
   obtain ⟨u, g1, g2⟩ := h5.get hc
   exact ⟨u, by rw [hdr_box h1 h3]; exact g1, g2⟩
  | one c => rw [hv] at hb; exact hb.elim
  | tup x => rw [hv] at hb; exact hb.elim
  | undef => rw [hv] at hc; simp [SV.cells] at hc
theorem Rel.ownRow (h : Rel K β ω Z s a w) {r : Res} {j : Nat} {e : Nat} {ys : List (List D)} (he : isMap e = false) (hc : (s r).at j = .own e ys) :
  ∃ ad cap, hdr K β a w r j = some (.slice (some ad) ys.length cap) ∧ ad.spot = none ∧ ys.length ≤ cap ∧ RowsRel w Z e ys ad.block ad.off := by
 obtain ⟨u, h1, hcu⟩ := h.cell (at_cells hc (by simp))
 obtain ⟨ad, cap, h2, h3, h4, h5⟩ := (CRel.own_sl he).1 hcu
 exact ⟨ad, cap, by rw [h1, h2], h3, h4, h5⟩
theorem Rel.ownMap (h : Rel K β ω Z s a w) {r : Res} {j : Nat} {e : Nat} {ys : List (List D)} (he : isMap e = true) (hc : (s r).at j = .own e ys) :
  ∃ b, hdr K β a w r j = some (mpV e b) ∧ MapAt w Z e ys b := by
 obtain ⟨u, h1, hcu⟩ := h.cell (at_cells hc (by simp))
 obtain ⟨b, h2, h3⟩ := (CRel.own_mp he).1 hcu
 exact ⟨b, by rw [h1, h2], h3⟩
theorem CRel.own_blk {e : Nat} {xs : List (List D)} {u : Value} (hcu : CRel K β Z s a w (.own e xs) u) : ∃ b, blkOf u = some b := by
 by_cases he : isMap e = true
 ·obtain ⟨b, h1, _⟩ := (CRel.own_mp he).1 hcu
  exact ⟨b, by rw [h1]; exact mpV_blk ..⟩
 ·obtain ⟨ad, cap, h1, _⟩ := (CRel.own_sl (by simpa using he)).1 hcu
  exact ⟨ad.block, by rw [h1]; rfl⟩
end
end Go.Vs
namespace Go.Vs
section
variable {K : Ctx} {β : Key → Option Nat} {ω : Nat → Option Holder} {Z : Nat → Prop} {s : St} {a : Act} {w : World}
def Free (K : Ctx) (β : Key → Option Nat) (s : St) (a : Act) (w : World) (b : Nat) : Prop :=
 ∀ (r : Res) (j e : Nat) (xs : List (List D)) (u : Value) (b1 : Nat), r.isArg = false → (s r).v.cells[j]? = some (.own e xs) → hdr K β a w r j = some u → blkOf u = some b1 → b1 ≠ b
def PendC (K : Ctx) (β : Key → Option Nat) (ω : Nat → Option Holder) (Z : Nat → Prop) (s : St) (a : Act) (w : World) (r : Res) (i : Nat) (c : C) (u : Value) : Prop :=
 CRel K β Z s a w c u ∧ ∀ (e : Nat) (xs : List (List D)) (b : Nat), c = .own e xs → blkOf u = some b → ω b = some (r, some i) ∧ WrV w e u ∧ Free K β s a w b
structure Calm (K : Ctx) (β : Key → Option Nat) (a : Act) (ω : Nat → Option Holder) (Z : Nat → Prop) (s : St) (w : World) (ω' : Nat → Option Holder) (Z' : Nat → Prop) (s' : St) (w' : World) : Prop where
 z : ∀ b, Z b → Z' b
 heap : ∀ b, b < w.heap.size → w'.heap[b]? = w.heap[b]?
 size : w.heap.size ≤ w'.heap.size
 evo : ∀ r, Evo (s r) (s' r)
 hdr : ∀ r j, hdr K β a w' r j = hdr K β a w r j
 fr : ∀ b, b < w.heap.size → Free K β s a w b → ω' b = ω b ∧ Free K β s' a w' b
theorem Calm.refl : Calm K β a ω Z s w ω Z s w := ⟨fun _ h => h, fun _ _ => rfl, Nat.le_refl _, fun _ => Evo.refl _, fun _ _ => rfl, fun _ _ h => ⟨rfl, h⟩⟩
theorem EvoC.trans {p q t : Prop} (hp : t → p) (hq : t → q) {c c' c'' : C} (h : EvoC p c c') (k : EvoC q c' c'') : EvoC t c c'' := by
 rcases h with rfl | ⟨e, ys, rfl, rfl⟩ | ⟨hn, e, ys, ys', rfl, rfl | rfl⟩
 ·rcases k with k | k | ⟨hn, k⟩
  ·exact .inl k
  ·exact .inr (.inl k)
  ·exact .inr (.inr ⟨fun ht => hn (hq ht), k⟩)
 ·rcases k with rfl | ⟨e', ys', h1, rfl⟩ | ⟨hn, e', ys', zs, h1, h2⟩
  ·exact .inr (.inl ⟨e, ys, rfl, rfl⟩)
  ·cases h1
  ·cases h1
 ·rcases k with rfl | ⟨e', ys1, h1, rfl⟩ | ⟨hn', e', ys1, zs, h1, h2⟩
  ·exact .inr (.inr ⟨fun ht => hn (hp ht), e, ys, ys', rfl, .inl rfl⟩)
  ·cases h1
   exact .inr (.inr ⟨fun ht => hn (hp ht), e, ys, ys', rfl, .inr rfl⟩)
  ·cases h1
   exact .inr (.inr ⟨fun ht => hn (hp ht), e, ys, zs, rfl, h2⟩)
 ·rcases k with rfl | ⟨e', ys1, h1, rfl⟩ | ⟨hn', e', ys1, zs, h1, h2⟩
  ·exact .inr (.inr ⟨fun ht => hn (hp ht), e, ys, ys', rfl, .inr rfl⟩)
  ·cases h1
  ·cases h1
theorem EvoC.alive {p : Prop} {c c' : C} (h : EvoC p c c') (hc : c' ≠ .dead) : c ≠ .dead := by
 rcases h with rfl | ⟨e, ys, rfl, _⟩ | ⟨_, e, ys, ys', rfl, _⟩
 ·exact hc
 ·simp
 ·simp
theorem Evo.trans {x y z : RV} (h : Evo x y) (k : Evo y z) : Evo x z := by
 obtain ⟨h1, h2, h3⟩ := h
 obtain ⟨k1, k2, k3⟩ := k
 refine ⟨by omega, by omega, fun e j hj => ?_⟩
 have hk := k3 (by omega) j hj
 exact EvoC.trans (fun _ => by omega) (fun _ => by omega) (h3 (by omega) j (hk.alive hj)) hk
theorem Calm.trans {ω' ω'' : Nat → Option Holder} {Z' Z'' : Nat → Prop} {s' s'' : St} {w' w'' : World} (h : Calm K β a ω Z s w ω' Z' s' w') (k : Calm K β a ω' Z' s' w' ω'' Z'' s'' w'') :
  Calm K β a ω Z s w ω'' Z'' s'' w'' :=
 ⟨fun b hb => k.z b (h.z b hb), fun b hb => (k.heap b (Nat.lt_of_lt_of_le hb h.size)).trans (h.heap b hb), Nat.le_trans h.size k.size, fun r => (h.evo r).trans (k.evo r), fun r j => (k.hdr r j).trans (h.hdr r j),
  fun b hb hf => ⟨((k.fr b (Nat.lt_of_lt_of_le hb h.size) (h.fr b hb hf).2).1).trans (h.fr b hb hf).1, (k.fr b (Nat.lt_of_lt_of_le hb h.size) (h.fr b hb hf).2).2⟩⟩
theorem Calm.crel {ω' : Nat → Option Holder} {Z' : Nat → Prop} {s' : St} {w' : World} (k : Calm K β a ω Z s w ω' Z' s' w') (hz : ∀ b, Z b → b < w.heap.size) {c : C} {u : Value}
  (hown : ∀ (e : Nat) (xs : List (List D)) (b : Nat), c = .own e xs → blkOf u = some b → b < w.heap.size) (h : CRel K β Z s a w c u) : CRel K β Z' s' a w' c u :=
 CRel.step (fun _ _ h => h) (fun b hb => ⟨k.heap b (hz b hb), k.z b hb⟩) k.evo (fun r j _ _ => k.hdr r j) (fun e xs b h1 h2 => k.heap _ (hown e xs b h1 h2)) h
theorem Calm.pend {ω' : Nat → Option Holder} {Z' : Nat → Prop} {s' : St} {w' : World} (k : Calm K β a ω Z s w ω' Z' s' w') (hr : Rel K β ω Z s a w) {r : Res} {i : Nat} {c : C} {u : Value} (h : PendC K β ω Z s a w r i c u) :
  PendC K β ω' Z' s' a w' r i c u := by
 have hlt : ∀ (e : Nat) (xs : List (List D)) (b : Nat), c = .own e xs → blkOf u = some b → b < w.heap.size := fun e xs b h1 h2 => (hr.ωok _ _ (h.2 e xs b h1 h2).1).2.1
 refine ⟨k.crel hr.zin hlt h.1, fun e xs b h1 h2 => ?_⟩
 obtain ⟨g1, g2, g3⟩ := h.2 e xs b h1 h2
 have hb := hlt e xs b h1 h2
 exact ⟨by rw [(k.fr _ hb g3).1]; exact g1, g2.mono h2 (k.heap _ hb), (k.fr _ hb g3).2⟩
theorem PendC.of_not {r : Res} {i : Nat} {c : C} {u : Value} (hc : ∀ e xs, c ≠ .own e xs) (h : CRel K β Z s a w c u) : PendC K β ω Z s a w r i c u :=
 ⟨h, fun e xs _ h1 _ => absurd h1 (hc e xs)⟩
theorem set_v (s : St) (r q : Res) (x : RV) : (s.set r x q).v = if q = r then x.v else (s q).v := by simp only [St.set]; split <;> rfl
theorem cells_set {sv : SV} {j j' : Nat} {c d : C} (h : (sv.setCell j c).cells[j']? = some d) : (j' = j ∧ d = c) ∨ (j' ≠ j ∧ sv.cells[j']? = some d) := by
 rw [setCell_cells, List.getElem?_set] at h
 split at h
 ·rename_i hj
  split at h
  ·exact .inl ⟨hj.symm, by simpa using h.symm⟩
  ·cases h
 ·rename_i hj
  exact .inr ⟨fun e => hj e.symm, h⟩
theorem Rel.recell (h : Rel K β ω Z s a w) {r : Res} {j e : Nat} {ys : List (List D)} {c' : C} (hc : (s r).at j = .own e ys) (hr : r.isArg = false) (hc' : c' = .dead ∨ c' = .d (.sl e ys))
  {u0 : Value} {b0 : Nat} (hh : hdr K β a w r j = some u0) (hb0 : blkOf u0 = some b0) {ω' : Nat → Option Holder} {Z' : Nat → Prop}
  (hZ : ∀ b, Z' b ↔ Z b ∨ (c' ≠ .dead ∧ b = b0)) (hω : ∀ b, b ≠ b0 → ω' b = ω b) (hω' : c' ≠ .dead → ω' b0 = none) :
  Rel K β ω' Z' (s.set r { s r with v := (s r).v.setCell j c' }) a w ∧
  Calm K β a ω Z s w ω' Z' (s.set r { s r with v := (s r).v.setCell j c' }) w ∧
  Free K β (s.set r { s r with v := (s r).v.setCell j c' }) a w b0 := by
 have hcell := at_cells hc (by simp)
 obtain ⟨hω0, hwr⟩ := h.own r j e ys u0 b0 hr hcell hh hb0
 obtain ⟨hnz, hlt, hE⟩ := h.ωok _ _ hω0
 obtain ⟨u, hu1, hcu0⟩ := h.cell hcell
 rw [hh] at hu1
 cases hu1
 have hno : ∀ e xs, c' ≠ .own e xs := by rcases hc' with rfl | rfl <;> simp
 generalize hs' : s.set r { s r with v := (s r).v.setCell j c' } = s'
 have hcells : ∀ q, (s' q).v = if q = r then (s r).v.setCell j c' else (s q).v := fun q => by rw [← hs']; exact set_v ..
 have hownOld : ∀ (q : Res) (i e : Nat) (xs : List (List D)), (s' q).v.cells[i]? = some (.own e xs) → (s q).v.cells[i]? = some (.own e xs) ∧ ¬ (q = r ∧ i = j) := by
  intro q i e' xs hq
  rw [hcells] at hq
  split at hq
  ·rename_i hqr
   subst hqr
   rcases cells_set hq with ⟨_, h2⟩ | ⟨h1, h2⟩
   ·exact absurd h2.symm (hno _ _)
   ·exact ⟨h2, fun hx => h1 hx.2⟩
  ·rename_i hqr
   exact ⟨hq, fun hx => hqr hx.1⟩
 have hevo : ∀ q, Evo (s q) (s' q) := by
  intro q
  by_cases hq : q = r
  ·subst hq
   rw [← hs', set_same]
   refine ⟨Nat.le_refl _, Nat.le_refl _, fun _ i hi => ?_⟩
   have hat : ∀ i, ({ s q with v := (s q).v.setCell j c' } : RV).at i = if i = j ∧ i < (s q).v.cells.length then c' else (s q).at i := by
    intro i
    simp only [RV.at, setCell_cells, List.getD_eq_getElem?_getD, List.getElem?_set]
    by_cases hij : j = i
    ·subst hij
     simp only [if_true, true_and]
     split
     ·rfl
     ·rename_i hlt; rw [List.getElem?_eq_none (by omega)]
    ·simp [hij, Ne.symm hij]
   rw [hat] at hi ⊢
   by_cases hx : i = j ∧ i < (s q).v.cells.length
   ·rw [if_pos hx] at hi ⊢
    obtain ⟨rfl, _⟩ := hx
    rw [hc]
    rcases hc' with rfl | rfl
    ·exact absurd rfl hi
    ·exact .inr (.inl ⟨e, ys, rfl, rfl⟩)
   ·rw [if_neg hx]; exact .inl rfl
  ·rw [← hs', set_other _ _ hq]; exact Evo.refl _
 have hZZ : ∀ b, Z b → Z' b := fun b hb => (hZ b).2 (.inl hb)
 have hfr : ∀ b, b < w.heap.size → Free K β s a w b → ω' b = ω b ∧ Free K β s' a w b := by
  intro b _ hf
  have hne : b ≠ b0 := fun hb => hf r j e ys u0 b0 hr hcell hh hb0 hb.symm
  exact ⟨hω b hne, fun q i e' xs u' b' hq hc1 hh1 hb1 => hf q i e' xs u' b' hq (hownOld q i e' xs hc1).1 hh1 hb1⟩
 have hcalm : Calm K β a ω Z s w ω' Z' s' w := ⟨hZZ, fun _ _ => rfl, Nat.le_refl _, hevo, fun _ _ => rfl, hfr⟩
 have hlift : ∀ (c : C) (u : Value), CRel K β Z s a w c u → CRel K β Z' s' a w c u := fun c u hcu =>
  CRel.step (fun _ _ h => h) (fun b hb => ⟨rfl, hZZ b hb⟩) hevo (fun _ _ _ _ => rfl) (fun _ _ _ _ _ => rfl) hcu
 have hnew : CRel K β Z' s' a w c' u0 := by
  rcases hc' with rfl | rfl
  ·trivial
  ·by_cases he : isMap e = true
   ·obtain ⟨b, rfl, g⟩ := (CRel.own_mp he).1 hcu0
    rw [mpV_blk, Option.some.injEq] at hb0
    subst hb0
    exact (DRel.mp_iff he).2 ⟨b, rfl, (hZ _).2 (.inr ⟨by simp, rfl⟩), MapAt.mono (fun b hb => ⟨rfl, hZZ b hb⟩) e ys _ rfl g⟩
   ·have he : isMap e = false := by simpa using he
    obtain ⟨ad, cap, rfl, hsp, hle, hrows⟩ := (CRel.own_sl he).1 hcu0
    simp only [blkOf, Option.some.injEq] at hb0
    subst hb0
    exact (DRel.sl_iff he).2 ⟨ad, cap, rfl, .inr ⟨hsp, (hZ _).2 (.inr ⟨by simp, rfl⟩)⟩, hle, RowsRel.mono (fun b hb => ⟨rfl, hZZ b hb⟩) e ys _ _ rfl hrows⟩
 have hne_of : ∀ (q : Res) (i e' : Nat) (xs : List (List D)) (u' : Value) (b' : Nat), q.isArg = false → (s q).v.cells[i]? = some (.own e' xs) → ¬ (q = r ∧ i = j) → hdr K β a w q i = some u' → blkOf u' = some b' → b' ≠ b0 := by
  intro q i e' xs u' b' hq hc1 hn hh1 hb1 hb
  have := (h.own q i e' xs u' b' hq hc1 hh1 hb1).1
  rw [hb, hω0] at this
  simp only [Option.some.injEq, Prod.mk.injEq] at this
  exact hn ⟨this.1.symm, this.2.symm⟩
 have hsv : ∀ (v : Value), SVRel (CRel K β Z s a w) v (s r).v → (∀ u, (flat v)[j]? = some u → u = u0) → SVRel (CRel K β Z' s' a w) v ((s r).v.setCell j c') :=
  fun v hv hu => SVRel.setCell (SVRel.mono (fun c u _ => hlift c u) hv) fun u hju => by rw [hu u hju]; exact hnew
 refine ⟨⟨h.size, h.defers, h.os, h.tape, h.output, h.base, h.frame, ?_, fun b hb => hZZ b (h.zold b hb), ?_, ?_, ?_, ?_, ?_, ?_, ?_, h.βold⟩, hcalm, ?_⟩
 ·intro b hb
  rcases (hZ b).1 hb with hb | ⟨_, rfl⟩
  ·exact h.zin b hb
  ·exact hlt
 ·intro b hb
  rcases (hZ b).1 hb with hb | ⟨_, rfl⟩
  ·rcases h.znew b hb with g | g | g | ⟨i, j', e', ys', u', g1, g2, g3⟩
   ·exact .inl g
   ·exact .inr (.inl g)
   ·exact .inr (.inr (.inl g))
   ·refine .inr (.inr (.inr ⟨i, j', e', ys', u', ?_, g2, g3⟩))
    rw [hcells, if_neg (by rintro rfl; simp [Res.isArg] at hr)]
    exact g1
  ·by_cases hbase : b < K.base
   ·exact .inr (.inr (.inl (hE hbase)))
   ·exact .inr (.inl (by omega))
 ·intro t
  rw [hcells]
  split
  ·rename_i ht
   have ht' : (s (.tmp t)).v = (s r).v := by rw [ht]
   refine hsv _ (ht' ▸ h.tmps t) fun u hu => ?_
   subst ht
   simp only [hdr] at hh
   rw [hh] at hu
   exact (Option.some.inj hu).symm
  ·exact SVRel.mono (fun c u _ => hlift c u) (h.tmps t)
 ·intro i
  rw [hcells, if_neg (by rintro rfl; simp [Res.isArg] at hr)]
  exact SVRel.mono (fun c u _ => hlift c u) (h.args i)
 ·intro k
  have hb := h.boxes k
  rw [hcells]
  split
  ·rename_i hk
   subst hk
   cases hv : (s (.box k)).v with
   | agg cs =>
    obtain ⟨b, ws, el, lo, hi, g1, g2, g3, g4, g5⟩ := BoxRel.cell h hv
    refine ⟨b, ws, el, lo, hi, g1, ?_, g3, g4, ?_⟩
    ·rw [hω b]
     ·exact g2
     ·intro hbb
      rw [hbb, hω0] at g2
      cases g2
    ·refine All2.set (g5.mono fun u c => hlift c u) fun u hu => ?_
     rw [hdr_box g1 g3] at hh
     rw [hh] at hu
     cases hu
     exact hnew
   | one c => rw [hv] at hb; exact hb.elim
   | tup x => rw [hv] at hb; exact hb.elim
   | undef => rw [hv] at hcell; simp [SV.cells] at hcell
  ·cases hv : (s (.box k)).v with
   | agg cs =>
    obtain ⟨b, ws, el, lo, hi, g1, g2, g3, g4, g5⟩ := BoxRel.cell h hv
    refine ⟨b, ws, el, lo, hi, g1, ?_, g3, g4, g5.mono fun u c => hlift c u⟩
    rw [hω b]
    ·exact g2
    ·intro hbb
     rw [hbb, hω0] at g2
     cases g2
   | one c => rw [hv] at hb; exact hb.elim
   | tup x => rw [hv] at hb; exact hb.elim
   | undef => rw [hv] at hb; exact hb
 ·intro q i e' xs u' b' hq hc1 hh1 hb1
  obtain ⟨g1, g2⟩ := hownOld q i e' xs hc1
  obtain ⟨g3, g4⟩ := h.own q i e' xs u' b' hq g1 hh1 hb1
  exact ⟨by rw [hω _ (hne_of q i e' xs u' b' hq g1 g2 hh1 hb1)]; exact g3, g4⟩
 ·intro i j' e' xs u' b' hc1 hh1 hb1
  exact h.argown i j' e' xs u' b' (hownOld _ _ _ _ hc1).1 hh1 hb1
 ·intro b g hb
  by_cases hbb : b = b0
  ·subst hbb
   refine ⟨fun hz => ?_, hlt, hE⟩
   rcases (hZ _).1 hz with hz | ⟨hd, _⟩
   ·exact hnz hz
   ·rw [hω' hd] at hb; cases hb
  ·rw [hω b hbb] at hb
   obtain ⟨g1, g2, g3⟩ := h.ωok b g hb
   refine ⟨fun hz => ?_, g2, g3⟩
   rcases (hZ _).1 hz with hz | ⟨_, hd⟩
   ·exact g1 hz
   ·exact hbb hd
 ·intro q i e' xs u' b' hq hc1 hh1 hb1
  obtain ⟨g1, g2⟩ := hownOld q i e' xs hc1
  exact hne_of q i e' xs u' b' hq g1 g2 hh1 hb1
end
end Go.Vs
namespace Go.Vs
section
variable {K : Ctx} {β : Key → Option Nat} {ω : Nat → Option Holder} {Z : Nat → Prop} {s : St} {a : Act} {w : World}
theorem Rel.putTmp (h : Rel K β ω Z s a w) {t : Nat} (ht : t < K.N) {u : Value} {v : SV} (hv : SVRel (CRel K β Z s a w) u v)
  (ho : ∀ (j e : Nat) (xs : List (List D)) (u1 : Value) (b : Nat), v.cells[j]? = some (.own e xs) → (flat u)[j]? = some u1 → blkOf u1 = some b → ω b = some (.tmp t, some j) ∧ WrV w e u1) :
  Rel K β ω Z (s.set (.tmp t) { hv := (s (.tmp t)).hv + 1, cv := (s (.tmp t)).cv, v }) (a.put (some t) u) w := by
 generalize hs' : s.set (.tmp t) { hv := (s (.tmp t)).hv + 1, cv := (s (.tmp t)).cv, v } = s'
 have hcells : ∀ q, (s' q).v = if q = .tmp t then v else (s q).v := fun q => by rw [← hs']; exact set_v ..
 have hget : ∀ t', (a.put (some t) u).tmps.getD t' undef = if t' = t then u else a.tmps.getD t' undef := by
  intro t'
  simp only [Act.put, Array.getD_eq_getD_getElem?, Array.getElem?_setIfInBounds]
  by_cases hh : t = t'
  ·subst hh; simp [h.size, ht]
  ·simp [hh, Ne.symm hh]
 have hhdr : ∀ r j, r ≠ .tmp t → hdr K β (a.put (some t) u) w r j = hdr K β a w r j := by
  intro r j hr
  cases r with
  | tmp t' => simp only [hdr]; rw [hget, if_neg (fun e => hr (by rw [e]))]
  | box k => rfl
  | arg i => rfl
 have hevo : ∀ q, Evo (s q) (s' q) := by
  intro q
  by_cases hq : q = .tmp t
  ·subst hq; rw [← hs', set_same]; exact Evo.bump rfl rfl
  ·rw [← hs', set_other _ _ hq]; exact Evo.refl _
 have hlift : ∀ (c : C) (x : Value), CRel K β Z s a w c x → CRel K β Z s' (a.put (some t) u) w c x := fun c x hcu =>
  CRel.step (fun _ _ h => h) (fun b hb => ⟨rfl, hb⟩) hevo (fun r j hr _ => by
   by_cases hq : r = .tmp t
   ·subst hq; rw [← hs', set_same] at hr; simp at hr
   ·exact hhdr r j hq) (fun _ _ _ _ _ => rfl) hcu
 refine ⟨by simpa [Act.put] using h.size, h.defers, h.os, h.tape, h.output, h.base, h.frame, h.zin, h.zold, ?_, ?_, ?_, ?_, ?_, ?_, h.ωok, h.βold⟩
 ·intro b hb
  rcases h.znew b hb with g | g | g | ⟨i, j', e', ys', u', g1, g2, g3⟩
  ·exact .inl g
  ·exact .inr (.inl g)
  ·exact .inr (.inr (.inl g))
  ·exact .inr (.inr (.inr ⟨i, j', e', ys', u', by rw [hcells, if_neg (by simp)]; exact g1, g2, g3⟩))
 ·intro t'
  rw [hcells, hget]
  by_cases e : t' = t
  ·subst e; rw [if_pos rfl, if_pos rfl]; exact SVRel.mono (fun c x _ => hlift c x) hv
  ·rw [if_neg e, if_neg (by simpa using e)]; exact SVRel.mono (fun c x _ => hlift c x) (h.tmps t')
 ·intro i
  rw [hcells, if_neg (by simp)]
  exact SVRel.mono (fun c x _ => hlift c x) (h.args i)
 ·intro k
  rw [hcells, if_neg (by simp)]
  have hb := h.boxes k
  cases hv : (s (.box k)).v with
  | agg cs =>
   obtain ⟨b, ws, el, lo, hi, g1, g2, g3, g4, g5⟩ := BoxRel.cell h hv
   exact ⟨b, ws, el, lo, hi, g1, g2, g3, g4, g5.mono fun u c => hlift c u⟩
  | one c => rw [hv] at hb; exact hb.elim
  | tup x => rw [hv] at hb; exact hb.elim
  | undef => rw [hv] at hb; exact hb
 ·intro q i e xs u1 b hq hc hh hb
  rw [hcells] at hc
  by_cases e' : q = .tmp t
  ·subst e'
   rw [if_pos rfl] at hc
   simp only [hdr] at hh
   rw [hget, if_pos rfl] at hh
   exact ho i e xs u1 b hc hh hb
  ·rw [if_neg e'] at hc
   rw [hhdr q i e'] at hh
   exact h.own q i e xs u1 b hq hc hh hb
 ·intro i j e xs u1 b hc hh hb
  rw [hcells, if_neg (by simp)] at hc
  exact h.argown i j e xs u1 b hc hh hb
theorem Rel.freezeArg (h : Rel K β ω Z s a w) {i j e : Nat} {ys : List (List D)} (hc : (s (.arg i)).at j = .own e ys) {u0 : Value} {b0 : Nat} (hh : (flat (K.argv.getD i undef))[j]? = some u0) (hb0 : blkOf u0 = some b0) :
  Rel K β ω (fun b => Z b ∨ (b = b0 ∧ Live u0)) (s.set (.arg i) { s (.arg i) with v := (s (.arg i)).v.setCell j (.d (.sl e ys)) }) a w ∧
  Calm K β a ω Z s w ω (fun b => Z b ∨ (b = b0 ∧ Live u0)) (s.set (.arg i) { s (.arg i) with v := (s (.arg i)).v.setCell j (.d (.sl e ys)) }) w := by
 have hcell := at_cells hc (by simp)
 obtain ⟨u, hu1, hcu0⟩ := h.cell hcell
 simp only [hdr] at hu1
 rw [hh] at hu1
 cases hu1
 obtain ⟨hlt, hE⟩ := h.argown i j e ys u0 b0 hcell hh hb0
 generalize hs' : s.set (.arg i) { s (.arg i) with v := (s (.arg i)).v.setCell j (.d (.sl e ys)) } = s'
 have hcells : ∀ q, (s' q).v = if q = .arg i then (s (.arg i)).v.setCell j (.d (.sl e ys)) else (s q).v := fun q => by rw [← hs']; exact set_v ..
 have hωn : ω b0 = none := by
  cases hω : ω b0 with
  | none => rfl
  | some g => exact absurd ((h.ωok _ _ hω).2.2 hlt) hE
 have hownOld : ∀ (q : Res) (l e : Nat) (xs : List (List D)), (s' q).v.cells[l]? = some (.own e xs) → (s q).v.cells[l]? = some (.own e xs) := by
  intro q l e' xs hq
  rw [hcells] at hq
  split at hq
  ·rename_i hqr
   subst hqr
   rcases cells_set hq with ⟨_, h2⟩ | ⟨h1, h2⟩
   ·cases h2
   ·exact h2
  ·exact hq
 have hevo : ∀ q, Evo (s q) (s' q) := by
  intro q
  by_cases hq : q = .arg i
  ·subst hq
   rw [← hs', set_same]
   refine ⟨Nat.le_refl _, Nat.le_refl _, fun _ l hl => ?_⟩
   simp only [RV.at, setCell_cells, List.getD_eq_getElem?_getD, List.getElem?_set] at hl ⊢
   by_cases hij : j = l
   ·subst hij
    have hlen : j < (s (.arg i)).v.cells.length := (List.getElem?_eq_some_iff.1 hcell).1
    simp only [if_true, hlen, Option.getD_some]
    exact .inr (.inl ⟨e, ys, by rw [hcell]; rfl, rfl⟩)
   ·simp only [hij, if_false]; exact .inl rfl
  ·rw [← hs', set_other _ _ hq]; exact Evo.refl _
 have hfr : ∀ b, b < w.heap.size → Free K β s a w b → ω b = ω b ∧ Free K β s' a w b := fun b _ hf =>
  ⟨rfl, fun q l e' xs u' b' hq hc1 hh1 hb1 => hf q l e' xs u' b' hq (hownOld q l e' xs hc1) hh1 hb1⟩
 have hcalm : Calm K β a ω Z s w ω (fun b => Z b ∨ (b = b0 ∧ Live u0)) s' w := ⟨fun b hb => .inl hb, fun _ _ => rfl, Nat.le_refl _, hevo, fun _ _ => rfl, hfr⟩
 have hlift : ∀ (c : C) (u : Value), CRel K β Z s a w c u → CRel K β (fun b => Z b ∨ (b = b0 ∧ Live u0)) s' a w c u := fun c u hcu =>
  CRel.step (fun _ _ h => h) (fun b hb => ⟨rfl, .inl hb⟩) hevo (fun _ _ _ _ => rfl) (fun _ _ _ _ _ => rfl) hcu
 have hnew : CRel K β (fun b => Z b ∨ (b = b0 ∧ Live u0)) s' a w (.d (.sl e ys)) u0 := by
  show DRel w (fun b => Z b ∨ (b = b0 ∧ Live u0)) (.sl e ys) u0
  by_cases he : isMap e = true
  ·obtain ⟨b, rfl, g⟩ := (CRel.own_mp he).1 hcu0
   rw [mpV_blk, Option.some.injEq] at hb0
   subst hb0
   exact (DRel.mp_iff he).2 ⟨b, rfl, .inr ⟨rfl, mpV_live ..⟩, MapAt.mono (fun b hb => ⟨rfl, .inl hb⟩) e ys _ rfl g⟩
  ·have he : isMap e = false := by simpa using he
   obtain ⟨ad, cap, rfl, hsp, hle, hrows⟩ := (CRel.own_sl he).1 hcu0
   simp only [blkOf, Option.some.injEq] at hb0
   subst hb0
   exact (DRel.sl_iff he).2 ⟨ad, cap, rfl, (Nat.eq_zero_or_pos cap).imp id fun hc => ⟨hsp, .inr ⟨rfl, Nat.ne_of_gt hc⟩⟩, hle, RowsRel.mono (fun b hb => ⟨rfl, .inl hb⟩) e ys _ _ rfl hrows⟩
 refine ⟨⟨h.size, h.defers, h.os, h.tape, h.output, h.base, h.frame, ?_, fun b hb => .inl (h.zold b hb), ?_, ?_, ?_, ?_, ?_, ?_, ?_, h.βold⟩, hcalm⟩
 ·rintro b (hb | ⟨rfl, hcap⟩)
  ·exact h.zin b hb
  ·exact Nat.lt_of_lt_of_le hlt h.base
 ·rintro b (hb | ⟨rfl, hcap⟩)
  ·rcases h.znew b hb with g | g | g | ⟨i', j', e', ys', u', g1, g2, g3⟩
   ·exact .inl g
   ·exact .inr (.inl g)
   ·exact .inr (.inr (.inl g))
   ·refine .inr (.inr (.inr ⟨i', j', e', ys', u', ?_, g2, g3⟩))
    rw [hcells]
    split
    ·rename_i hi
     rw [setCell_cells, List.getElem?_set]
     by_cases hj : j = j'
     ·subst hj
      cases hi
      rw [hcell] at g1
      cases g1
     ·rw [if_neg hj]; cases hi; exact g1
    ·exact g1
  ·refine .inr (.inr (.inr ⟨i, j, e, ys, u0, ?_, hh, hb0, hcap⟩))
   rw [hcells, if_pos rfl, setCell_cells, List.getElem?_set]
   simp [(List.getElem?_eq_some_iff.1 hcell).1]
 ·intro t
  rw [hcells, if_neg (by simp)]
  exact SVRel.mono (fun c u _ => hlift c u) (h.tmps t)
 ·intro i'
  rw [hcells]
  split
  ·rename_i hi
   cases hi
   refine SVRel.setCell (SVRel.mono (fun c u _ => hlift c u) (h.args i)) fun u hu => ?_
   rw [hh] at hu
   cases hu
   exact hnew
  ·exact SVRel.mono (fun c u _ => hlift c u) (h.args i')
 ·intro k
  have hb := h.boxes k
  rw [hcells, if_neg (by simp)]
  cases hv : (s (.box k)).v with
  | agg cs =>
   obtain ⟨b, ws, el, lo, hi, g1, g2, g3, g4, g5⟩ := BoxRel.cell h hv
   exact ⟨b, ws, el, lo, hi, g1, g2, g3, g4, g5.mono fun u c => hlift c u⟩
  | one c => rw [hv] at hb; exact hb.elim
  | tup x => rw [hv] at hb; exact hb.elim
  | undef => rw [hv] at hb; exact hb
 ·intro q l e' xs u' b' hq hc1 hh1 hb1
  exact h.own q l e' xs u' b' hq (hownOld q l e' xs hc1) hh1 hb1
 ·intro i' j' e' xs u' b' hc1 hh1 hb1
  exact h.argown i' j' e' xs u' b' (hownOld _ _ _ _ hc1) hh1 hb1
 ·intro b g hb
  obtain ⟨g1, g2, g3⟩ := h.ωok b g hb
  refine ⟨?_, g2, g3⟩
  rintro (hz | ⟨rfl, _⟩)
  ·exact g1 hz
  ·rw [hωn] at hb; cases hb
theorem Rel.hdr_grow (h : Rel K β ω Z s a w) {w' : World} (hheap : ∀ b, b < w.heap.size → w'.heap[b]? = w.heap[b]?) (r : Res) (j : Nat) : hdr K β a w' r j = hdr K β a w r j := by
 cases r with
 | tmp t => rfl
 | arg i => rfl
 | box k =>
  have hb := h.boxes k
  cases hv : (s (.box k)).v with
  | agg cs =>
   obtain ⟨b, ws, el, lo, hi, g1, g2, g3, g4, g5⟩ := BoxRel.cell h hv
   simp only [hdr, g1, Option.bind_some]
   exact cell_of_heap (hheap b (h.ωok _ _ g2).2.1) _ _
  | one c => rw [hv] at hb; exact hb.elim
  | tup x => rw [hv] at hb; exact hb.elim
  | undef => rw [hv] at hb; simp only [BoxRel] at hb; simp [hdr, hb]
theorem Rel.grow (h : Rel K β ω Z s a w) {w' : World} (hheap : ∀ b, b < w.heap.size → w'.heap[b]? = w.heap[b]?) (hsize : w.heap.size ≤ w'.heap.size) (hos : w'.os = w.os) (htape : w'.tape = w.tape) (hout : w'.output = w.output)
  {ω' : Nat → Option Holder} (hω : ∀ b, b < w.heap.size → ω' b = ω b) (hω' : ∀ b g, w.heap.size ≤ b → ω' b = some g → b < w'.heap.size) :
  Rel K β ω' Z s a w' ∧ Calm K β a ω Z s w ω' Z s w' := by
 have hhdr := h.hdr_grow hheap
 have hfr : ∀ b, b < w.heap.size → Free K β s a w b → ω' b = ω b ∧ Free K β s a w' b := fun b hb hf =>
  ⟨hω b hb, fun q l e' xs u' b' hq hc1 hh1 hb1 => hf q l e' xs u' b' hq hc1 (by rw [← hhdr]; exact hh1) hb1⟩
 have hcalm : Calm K β a ω Z s w ω' Z s w' := ⟨fun b hb => hb, hheap, hsize, fun _ => Evo.refl _, hhdr, hfr⟩
 have hliftI : ∀ (r : Res) (j : Nat) (c : C) (u : Value), (s r).v.cells[j]? = some c → hdr K β a w r j = some u → CRel K β Z s a w c u → CRel K β Z s a w' c u := by
  intro r j c u hc hu hcu
  refine hcalm.crel h.zin (fun e xs b h1 h2 => ?_) hcu
  subst h1
  by_cases hr : r.isArg = true
  ·cases r with
   | arg i => exact Nat.lt_of_lt_of_le (h.argown i j e xs u b hc hu h2).1 h.base
   | tmp t => simp [Res.isArg] at hr
   | box k => simp [Res.isArg] at hr
  ·exact (h.ωok _ _ (h.own r j e xs u b (by simpa using hr) hc hu h2).1).2.1
 refine ⟨⟨h.size, h.defers, hos.trans h.os, htape.trans h.tape, hout.trans h.output, Nat.le_trans h.base hsize, ?_, fun b hb => Nat.lt_of_lt_of_le (h.zin b hb) hsize, h.zold, h.znew, ?_, ?_, ?_, ?_, h.argown, ?_, h.βold⟩, hcalm⟩
 ·intro b hb hE
  rw [hheap b (Nat.lt_of_lt_of_le hb h.base)]
  exact h.frame b hb hE
 ·intro t
  exact SVRel.monoI (fun j c u hc hu => hliftI (.tmp t) j c u hc hu) (h.tmps t)
 ·intro i
  exact SVRel.monoI (fun j c u hc hu => hliftI (.arg i) j c u hc hu) (h.args i)
 ·intro k
  have hb := h.boxes k
  cases hv : (s (.box k)).v with
  | agg cs =>
   obtain ⟨b, ws, el, lo, hi, g1, g2, g3, g4, g5⟩ := BoxRel.cell h hv
   have hlt := (h.ωok _ _ g2).2.1
   refine ⟨b, ws, el, lo, hi, g1, by rw [hω b hlt]; exact g2, by rw [hheap b hlt]; exact g3, g4, All2.of_get g5.length fun j u c hu hc => ?_⟩
   obtain ⟨u', h1, h2⟩ := g5.get hc
   rw [hu] at h1
   cases h1
   exact hliftI (.box k) j c u (by rw [hv]; exact hc) (by rw [hdr_box g1 g3]; exact hu) h2
  | one c => rw [hv] at hb; exact hb.elim
  | tup x => rw [hv] at hb; exact hb.elim
  | undef => rw [hv] at hb; exact hb
 ·intro q i e xs u' b' hq hc hh hb1
  rw [hhdr] at hh
  obtain ⟨g1, g2⟩ := h.own q i e xs u' b' hq hc hh hb1
  have hlt := (h.ωok _ _ g1).2.1
  exact ⟨by rw [hω _ hlt]; exact g1, g2.mono hb1 (hheap _ hlt)⟩
 ·intro b g hb
  by_cases hlt : b < w.heap.size
  ·rw [hω b hlt] at hb
   obtain ⟨g1, g2, g3⟩ := h.ωok b g hb
   exact ⟨g1, Nat.lt_of_lt_of_le g2 hsize, g3⟩
  ·exact ⟨fun hz => hlt (h.zin b hz), hω' b g (by omega) hb, fun hbase => absurd (Nat.lt_of_lt_of_le hbase h.base) hlt⟩
theorem Rel.newObj (h : Rel K β ω Z s a w) (o : Obj) (g : Holder) :
  Rel K β (fun b => if b = w.heap.size then some g else ω b) Z s a (w.alloc o) ∧ Calm K β a ω Z s w (fun b => if b = w.heap.size then some g else ω b) Z s (w.alloc o) ∧
  Free K β s a (w.alloc o) w.heap.size ∧ (w.alloc o).heap[w.heap.size]? = some o := by
 have hheap : ∀ b, b < w.heap.size → (w.alloc o).heap[b]? = w.heap[b]? := fun b hb => by
  show (w.heap.push _)[b]? = _
  rw [Array.getElem?_push, if_neg (by omega)]
 obtain ⟨h1, h2⟩ := h.grow (w' := w.alloc o) (ω' := fun b => if b = w.heap.size then some g else ω b) hheap (by simp) rfl rfl rfl (fun b hb => by simp [Nat.ne_of_lt hb]) (fun b g' hb hg => by
  simp only [World.size_alloc]
  by_cases hbb : b = w.heap.size
  ·omega
  ·rw [if_neg hbb] at hg; have := (h.ωok b _ hg).2.1; omega)
 refine ⟨h1, h2, ?_, ?_⟩
 ·intro q l e' xs u' b' hq hc1 hh1 hb1 hb
  rw [h.hdr_grow hheap] at hh1
  have := (h.ωok _ _ (h.own q l e' xs u' b' hq hc1 hh1 hb1).1).2.1
  omega
 ·show (w.heap.push _)[w.heap.size]? = _
  simp
theorem Rel.alloc (h : Rel K β ω Z s a w) (cs : Array Value) (el : TypeId) (g : Holder) :
  Rel K β (fun b => if b = w.heap.size then some g else ω b) Z s a (w.alloc (.cells cs el)) ∧ Calm K β a ω Z s w (fun b => if b = w.heap.size then some g else ω b) Z s (w.alloc (.cells cs el)) ∧
  Free K β s a (w.alloc (.cells cs el)) w.heap.size ∧ (w.alloc (.cells cs el)).heap[w.heap.size]? = some (.cells cs el (0, 0)) := h.newObj _ g
theorem Rel.drew (h : Rel K β ω Z s a w) : Rel K β ω Z s a { w with drawn := w.drawn + 1 } ∧ Calm K β a ω Z s w ω Z s { w with drawn := w.drawn + 1 } :=
 h.grow (w' := { w with drawn := w.drawn + 1 }) (ω' := ω) (fun _ _ => rfl) (Nat.le_refl _) rfl rfl rfl (fun _ _ => rfl) (fun b g hb hg => by have := (h.ωok b g hg).2.1; omega)
end
end Go.Vs
namespace Go.Vs
theorem add_mk (b o n : Nat) : Addr.add ⟨b, o, none⟩ n = ⟨b, o + n, none⟩ := by
 unfold Addr.add
 split
 ·rename_i h; subst h; rfl
 ·rfl
theorem add_of {ad : Addr} (h : ad.spot = none) (n : Nat) : ad.add n = ⟨ad.block, ad.off + n, none⟩ := by
 obtain ⟨b, o, sp⟩ := ad
 simp only at h
 subst h
 exact add_mk b o n
theorem run_loadCellsFrom {P : Program} {w : World} {b o : Nat} {ws : Array Value} {el : TypeId} {fz : Nat × Nat} (hw : w.heap[b]? = some (.cells ws el fz)) : ∀ (n i : Nat) (acc : Array Value), o + i + n ≤ ws.size →
  (loadCellsFrom ⟨b, o, none⟩ i n acc).run P w = .ok (acc ++ (ws.extract (o + i) (o + i + n))) w := by
 intro n
 induction n with
 | zero =>
  intro i acc h
  simp [loadCellsFrom]
  omega
 | succ n ih =>
  intro i acc h
  have hc : w.cell? ⟨b, o + i, none⟩ = some ws[o + i] := by simp [World.cell?, hw, Array.getElem?_eq_getElem (show o + i < ws.size by omega)]
  simp only [loadCellsFrom, Sem.run_bind, add_mk, load, Sem.run, hc, Result.andThen_ok]
  rw [ih (i + 1) _ (by omega)]
  congr 1
  apply Array.toList_inj.1
  simp only [Array.toList_append, Array.toList_push, Array.toList_extract, List.extract_eq_take_drop, List.append_assoc]
  congr 1
  rw [show o + (i + 1) + n - (o + (i + 1)) = n by omega, show o + i + (n + 1) - (o + i) = n + 1 by omega]
  have hl : o + i < ws.toList.length := by simpa using (show o + i < ws.size by omega)
  rw [List.drop_eq_getElem_cons hl]
  simp [show o + (i + 1) = o + i + 1 by omega]
theorem run_loadCells {P : Program} {w : World} {b o n : Nat} {ws : Array Value} {el : TypeId} {fz : Nat × Nat} (hw : w.heap[b]? = some (.cells ws el fz)) (h : o + n ≤ ws.size) :
  (loadCells ⟨b, o, none⟩ n).run P w = .ok (ws.extract o (o + n)) w := by
 have := run_loadCellsFrom (P := P) hw n 0 #[] (by omega)
 simpa [loadCells] using this
structure Wrote (w w' : World) (b : Nat) (ws ws' : Array Value) (el : TypeId) (fz : Nat × Nat) : Prop where
 os : w'.os = w.os
 tape : w'.tape = w.tape
 output : w'.output = w.output
 size : w'.heap.size = w.heap.size
 other : ∀ c, c ≠ b → w'.heap[c]? = w.heap[c]?
 here : w'.heap[b]? = some (.cells ws' el fz)
 len : ws'.size = ws.size
theorem heap_setCell {w : World} {b o : Nat} {v : Value} {ws : Array Value} {el : TypeId} {fz : Nat × Nat} (hw : w.heap[b]? = some (.cells ws el fz)) :
  (w.setCell ⟨b, o, none⟩ v).heap[b]? = some (.cells (ws.setIfInBounds o v) el fz) ∧ ∀ c, c ≠ b → (w.setCell ⟨b, o, none⟩ v).heap[c]? = w.heap[c]? := by
 constructor
 ·simp [World.setCell, Array.getElem?_modify, hw]
 ·intro c hc
  simp [World.setCell, Array.getElem?_modify, Ne.symm hc]
theorem splice_set {l : List Value} {o : Nat} {v : Value} {vs : List Value} (h : o < l.length) : splice (l.set o v) (o + 1) vs = splice l o (v :: vs) := by
 have h1 : (l.set o v).take (o + 1) = l.take o ++ [v] := by
  rw [List.take_set, List.take_succ_eq_append_getElem h, List.set_append_right _ _ (by simp; omega)]
  simp [Nat.min_eq_left (Nat.le_of_lt h)]
 simp only [splice, h1, List.length_cons]
 rw [List.drop_set_of_lt (by omega), show o + 1 + vs.length = o + (vs.length + 1) by omega]
 simp
theorem run_storeCells {P : Program} {b o : Nat} {el : TypeId} {lo hi : Nat} : ∀ (vs : List Value) (i : Nat) (w : World) (ws : Array Value), w.heap[b]? = some (.cells ws el (lo, hi)) →
  (∀ x, x < ws.size → ¬ (lo ≤ x ∧ x < hi)) → o + i + vs.length ≤ ws.size → (∀ v ∈ vs, isOne v = true) →
  ∃ w' ws', (storeCells ⟨b, o, none⟩ vs i).run P w = .ok () w' ∧ Wrote w w' b ws ws' el (lo, hi) ∧ ws'.toList = splice ws.toList (o + i) vs := by
 intro vs
 induction vs with
 | nil =>
  intro i w ws hw hf hl hv
  exact ⟨w, ws, by simp [storeCells], ⟨rfl, rfl, rfl, rfl, fun _ _ => rfl, hw, rfl⟩, by simp [splice]⟩
 | cons v vs ih =>
  intro i w ws hw hf hl hv
  simp only [List.length_cons] at hl
  have hlt : o + i < ws.size := by omega
  have hc : w.cell? ⟨b, o + i, none⟩ = some ws[o + i] := by simp [World.cell?, hw, Array.getElem?_eq_getElem hlt]
  have hfr : w.frozen? ⟨b, o + i, none⟩ = false := by
   have := hf (o + i) hlt
   simp only [World.frozen?, hw]
   simp only [Bool.and_eq_false_iff, decide_eq_false_iff_not]
   by_cases h1 : lo ≤ o + i
   ·exact .inr (fun h2 => this ⟨h1, h2⟩)
   ·exact .inl h1
  have hone := hv v (List.mem_cons_self ..)
  have hstore : (store ⟨b, o + i, none⟩ v).run P w = .ok () (w.setCell ⟨b, o + i, none⟩ v) := by
   cases v <;> simp_all [store, Sem.run, isOne]
  obtain ⟨h1, h2⟩ := heap_setCell (w := w) (v := v) (o := o + i) hw
  obtain ⟨w', ws', g1, g2, g3⟩ := ih (i + 1) (w.setCell ⟨b, o + i, none⟩ v) (ws.setIfInBounds (o + i) v) h1 (by simpa using hf) (by simp; omega) (fun x hx => hv x (List.mem_cons_of_mem _ hx))
  refine ⟨w', ws', ?_, ⟨g2.os, g2.tape, g2.output, by rw [g2.size]; simp [World.setCell], fun c hc => (g2.other c hc).trans (h2 c hc), g2.here, by rw [g2.len]; simp⟩, ?_⟩
  ·simp only [storeCells, Sem.run_bind, add_mk, hstore, Result.andThen_ok]
   exact g1
  ·rw [g3]
   rw [Array.toList_setIfInBounds, show o + (i + 1) = o + i + 1 by omega]
   exact splice_set (by simpa using hlt)
section
variable {K : Ctx} {β : Key → Option Nat} {ω : Nat → Option Holder} {Z : Nat → Prop} {s : St} {a : Act} {w : World}
theorem Rel.box_ne (h : Rel K β ω Z s a w) {k k' : Key} {b b' : Nat} (hb : β k = some b) (hω : ω b = some (.box k, none)) (hk : k' ≠ k) (hb' : β k' = some b') : b' ≠ b := by
 intro e
 subst e
 have := h.boxes k'
 cases hv : (s (.box k')).v with
 | agg cs =>
  obtain ⟨b2, ws, el, lo, hi, g1, g2, g3, g4, g5⟩ := BoxRel.cell h hv
  rw [hb'] at g1
  cases g1
  rw [g2] at hω
  cases hω
  exact hk rfl
 | one c => rw [hv] at this; exact this.elim
 | tup x => rw [hv] at this; exact this.elim
 | undef => rw [hv] at this; simp only [BoxRel] at this; rw [this] at hb'; cases hb'
theorem Rel.setBox (h : Rel K β ω Z s a w) {k : Key} {b : Nat} {ws : Array Value} {el : TypeId} {lo hi : Nat} {w' : World} {cs : List C}
  (hω : ω b = some (.box k, none)) (hβ : β k = none ∨ β k = some b)
  (hos : w'.os = w.os) (htape : w'.tape = w.tape) (hout : w'.output = w.output) (hsize : w'.heap.size = w.heap.size) (hother : ∀ c, c ≠ b → w'.heap[c]? = w.heap[c]?)
  (hhere : w'.heap[b]? = some (.cells ws el (lo, hi))) (hfz : ∀ o, o < ws.size → ¬ (lo ≤ o ∧ o < hi))
  (hcs : All2 (fun u c => CRel K β Z s a w c u) ws.toList cs)
  (hpend : ∀ (j e : Nat) (xs : List (List D)) (u1 : Value) (b1 : Nat), cs[j]? = some (.own e xs) → ws.toList[j]? = some u1 → blkOf u1 = some b1 → ω b1 = some (.box k, some j) ∧ WrV w e u1) :
  Rel K (fun k' => if k' = k then some b else β k') ω Z (s.set (.box k) { hv := (s (.box k)).hv + 1, cv := (s (.box k)).cv, v := .agg cs }) a w' ∧
  (∀ (c : C) (u : Value), (∀ (e : Nat) (xs : List (List D)) (b1 : Nat), c = .own e xs → blkOf u = some b1 → b1 ≠ b) → CRel K β Z s a w c u →
   CRel K (fun k' => if k' = k then some b else β k') Z (s.set (.box k) { hv := (s (.box k)).hv + 1, cv := (s (.box k)).cv, v := .agg cs }) a w' c u) := by
 generalize hs' : s.set (.box k) { hv := (s (.box k)).hv + 1, cv := (s (.box k)).cv, v := .agg cs } = s'
 generalize hβ' : (fun k' => if k' = k then some b else β k') = β'
 have hβk : β' k = some b := by rw [← hβ']; simp
 have hβo : ∀ k', k' ≠ k → β' k' = β k' := fun k' hk => by rw [← hβ']; simp [hk]
 have hcells : ∀ q, (s' q).v = if q = .box k then .agg cs else (s q).v := fun q => by rw [← hs']; exact set_v ..
 obtain ⟨hnz, hlt, hE⟩ := h.ωok _ _ hω
 have hboxblk : ∀ k' b', k' ≠ k → β k' = some b' → b' ≠ b := by
  intro k' b' hk hb' e
  subst e
  have := h.boxes k'
  cases hv : (s (.box k')).v with
  | agg cs' =>
   obtain ⟨b2, ws2, el2, lo2, hi2, g1, g2, g3, g4, g5⟩ := BoxRel.cell h hv
   rw [hb'] at g1
   cases g1
   rw [g2] at hω
   cases hω
   exact hk rfl
  | one c => rw [hv] at this; exact this.elim
  | tup x => rw [hv] at this; exact this.elim
  | undef => rw [hv] at this; simp only [BoxRel] at this; rw [this] at hb'; cases hb'
 have hhdr : ∀ r j, r ≠ .box k → hdr K β' a w' r j = hdr K β a w r j := by
  intro r j hr
  cases r with
  | tmp t => rfl
  | arg i => rfl
  | box k' =>
   have hk : k' ≠ k := fun e => hr (by rw [e])
   simp only [hdr, hβo k' hk]
   cases hb' : β k' with
   | none => rfl
   | some b' =>
    simp only [Option.bind_some]
    exact cell_of_heap (hother b' (hboxblk k' b' hk hb')) _ _
 have hevo : ∀ q, Evo (s q) (s' q) := by
  intro q
  by_cases hq : q = .box k
  ·subst hq; rw [← hs', set_same]; exact Evo.bump rfl rfl
  ·rw [← hs', set_other _ _ hq]; exact Evo.refl _
 have hβmono : ∀ k' b', β k' = some b' → β' k' = some b' := by
  intro k' b' hb'
  by_cases hk : k' = k
  ·subst hk
   rcases hβ with hn | hn
   ·rw [hn] at hb'; cases hb'
   ·rw [hn] at hb'; cases hb'; exact hβk
  ·rw [hβo k' hk]; exact hb'
 have hlift : ∀ (c : C) (u : Value), (∀ (e : Nat) (xs : List (List D)) (b1 : Nat), c = .own e xs → blkOf u = some b1 → b1 ≠ b) → CRel K β Z s a w c u → CRel K β' Z s' a w' c u := fun c u hcu h1 =>
  CRel.step hβmono (fun b' hb' => ⟨hother b' (fun e => hnz (e ▸ hb')), hb'⟩) hevo (fun r j hr _ => by
   by_cases hq : r = .box k
   ·subst hq; rw [← hs', set_same] at hr; simp at hr
   ·exact hhdr r j hq) (fun e xs b1 h2 h3 => hother _ (hcu e xs b1 h2 h3)) h1
 have hliftI : ∀ (r : Res) (j : Nat) (c : C) (u : Value), r ≠ .box k → (s r).v.cells[j]? = some c → hdr K β a w r j = some u → CRel K β Z s a w c u → CRel K β' Z s' a w' c u := by
  intro r j c u hr hc hu
  refine hlift c u fun e xs b1 h1 h2 hb => ?_
  subst h1
  by_cases hra : r.isArg = true
  ·cases r with
   | arg i =>
    obtain ⟨g1, g2⟩ := h.argown i j e xs u b1 hc hu h2
    rw [hb] at g1 g2
    exact g2 (hE g1)
   | tmp t => simp [Res.isArg] at hra
   | box k => simp [Res.isArg] at hra
  ·have := (h.own r j e xs u b1 (by simpa using hra) hc hu h2).1
   rw [hb, hω] at this
   cases this
 have hpendne : ∀ (j e : Nat) (xs : List (List D)) (u1 : Value) (b1 : Nat), cs[j]? = some (.own e xs) → ws.toList[j]? = some u1 → blkOf u1 = some b1 → b1 ≠ b := by
  intro j e xs u1 b1 h1 h2 hb1 hb
  have := (hpend j e xs u1 b1 h1 h2 hb1).1
  rw [hb, hω] at this
  cases this
 refine ⟨⟨h.size, h.defers, hos.trans h.os, htape.trans h.tape, hout.trans h.output, by rw [hsize]; exact h.base, ?_, fun b' hb' => by rw [hsize]; exact h.zin b' hb', h.zold, ?_, ?_, ?_, ?_, ?_, ?_, ?_, fun k' b' hb' => hβmono k' b' (h.βold k' b' hb')⟩, hlift⟩
 ·intro b' hb' hEb
  rw [hother b' (fun e => by subst e; exact hEb (hE hb'))]
  exact h.frame b' hb' hEb
 ·intro b' hb'
  rcases h.znew b' hb' with g | g | g | ⟨i, j', e', ys', u', g1, g2, g3⟩
  ·exact .inl g
  ·exact .inr (.inl g)
  ·exact .inr (.inr (.inl g))
  ·exact .inr (.inr (.inr ⟨i, j', e', ys', u', by rw [hcells, if_neg (by simp)]; exact g1, g2, g3⟩))
 ·intro t
  rw [hcells, if_neg (by simp)]
  exact SVRel.monoI (fun j c u hc hu => hliftI (.tmp t) j c u (by simp) hc hu) (h.tmps t)
 ·intro i
  rw [hcells, if_neg (by simp)]
  exact SVRel.monoI (fun j c u hc hu => hliftI (.arg i) j c u (by simp) hc hu) (h.args i)
 ·intro k'
  rw [hcells]
  by_cases hk : k' = k
  ·subst hk
   rw [if_pos rfl]
   refine ⟨b, ws, el, lo, hi, hβk, hω, hhere, hfz, All2.of_get hcs.length fun j u c hu hc => ?_⟩
   obtain ⟨u', h1, h2⟩ := hcs.get hc
   rw [hu] at h1
   cases h1
   exact hlift c u (fun e xs b1 h3 h4 => hpendne j e xs u b1 (h3 ▸ hc) hu h4) h2
  ·rw [if_neg (by simpa using hk)]
   have hb := h.boxes k'
   cases hv : (s (.box k')).v with
   | agg cs' =>
    obtain ⟨b2, ws2, el2, lo2, hi2, g1, g2, g3, g4, g5⟩ := BoxRel.cell h hv
    refine ⟨b2, ws2, el2, lo2, hi2, by rw [hβo k' hk]; exact g1, g2, by rw [hother b2 (hboxblk k' b2 hk g1)]; exact g3, g4, All2.of_get g5.length fun j u c hu hc => ?_⟩
    obtain ⟨u', h1, h2⟩ := g5.get hc
    rw [hu] at h1
    cases h1
    exact hliftI (.box k') j c u (by simpa using hk) (by rw [hv]; exact hc) (by rw [hdr_box g1 g3]; exact hu) h2
   | one c => rw [hv] at hb; exact hb.elim
   | tup x => rw [hv] at hb; exact hb.elim
   | undef => rw [hv] at hb; simp only [BoxRel] at hb ⊢; rw [hβo k' hk]; exact hb
 ·intro q i e xs u1 b1 hq hc hh hb1
  rw [hcells] at hc
  by_cases hqk : q = .box k
  ·subst hqk
   rw [if_pos rfl] at hc
   rw [hdr_box hβk hhere] at hh
   obtain ⟨g1, g2⟩ := hpend i e xs u1 b1 hc hh hb1
   exact ⟨g1, g2.mono hb1 (hother _ (hpendne i e xs u1 b1 hc hh hb1))⟩
  ·rw [if_neg hqk] at hc
   rw [hhdr q i hqk] at hh
   obtain ⟨g1, g2⟩ := h.own q i e xs u1 b1 hq hc hh hb1
   exact ⟨g1, g2.mono hb1 (hother _ (fun e => by rw [e, hω] at g1; cases g1))⟩
 ·intro i j e xs u1 b1 hc hh hb1
  rw [hcells, if_neg (by simp)] at hc
  exact h.argown i j e xs u1 b1 hc hh hb1
 ·intro b' g hb'
  rw [hsize]
  exact h.ωok b' g hb'
structure Chg (w w' : World) (b : Nat) : Prop where
 os : w'.os = w.os
 tape : w'.tape = w.tape
 output : w'.output = w.output
 size : w'.heap.size = w.heap.size
 other : ∀ c, c ≠ b → w'.heap[c]? = w.heap[c]?
theorem Wrote.chg {w w' : World} {b : Nat} {ws ws' : Array Value} {el : TypeId} {fz : Nat × Nat} (h : Wrote w w' b ws ws' el fz) : Chg w w' b := ⟨h.os, h.tape, h.output, h.size, h.other⟩
theorem Rel.setOwn (h : Rel K β ω Z s a w) {r : Res} {j e : Nat} {ys ys' : List (List D)} (hc : (s r).at j = .own e ys) (hr : r.isArg = false) {u0 : Value} {b0 : Nat} (hh : hdr K β a w r j = some u0) (hb0 : blkOf u0 = some b0)
  {w' : World} (hw : Chg w w' b0) (hwr' : WrV w' e u0)
  (hnew : ∀ (s' : St), CRel K β Z s' a w' (.own e ys') u0) :
  Rel K β ω Z (s.set r { s r with cv := (s r).cv + 1, v := (s r).v.setCell j (.own e ys') }) a w' := by
 have hcell := at_cells hc (by simp)
 obtain ⟨hω0, hwr⟩ := h.own r j e ys u0 b0 hr hcell hh hb0
 obtain ⟨hnz, hlt, hE⟩ := h.ωok _ _ hω0
 generalize hs' : s.set r { s r with cv := (s r).cv + 1, v := (s r).v.setCell j (.own e ys') } = s'
 have hcells : ∀ q, (s' q).v = if q = r then (s r).v.setCell j (.own e ys') else (s q).v := fun q => by rw [← hs']; exact set_v ..
 have hownOld : ∀ (q : Res) (i e1 : Nat) (xs : List (List D)), (s' q).v.cells[i]? = some (.own e1 xs) → (q = r ∧ i = j ∧ e1 = e ∧ xs = ys') ∨ ((s q).v.cells[i]? = some (.own e1 xs) ∧ ¬ (q = r ∧ i = j)) := by
  intro q i e' xs hq
  rw [hcells] at hq
  split at hq
  ·rename_i hqr
   subst hqr
   rcases cells_set hq with ⟨h1, h2⟩ | ⟨h1, h2⟩
   ·cases h2; exact .inl ⟨rfl, h1, rfl, rfl⟩
   ·exact .inr ⟨h2, fun hx => h1 hx.2⟩
  ·rename_i hqr
   exact .inr ⟨hq, fun hx => hqr hx.1⟩
 have hevo : ∀ q, Evo (s q) (s' q) := by
  intro q
  by_cases hq : q = r
  ·subst hq
   rw [← hs', set_same]
   refine ⟨Nat.le_refl _, by simp, fun _ i hi => ?_⟩
   simp only [RV.at, setCell_cells, List.getD_eq_getElem?_getD, List.getElem?_set] at hi ⊢
   by_cases hij : j = i
   ·subst hij
    have hl : j < (s q).v.cells.length := (List.getElem?_eq_some_iff.1 hcell).1
    simp only [if_true, hl, Option.getD_some]
    exact .inr (.inr ⟨by omega, e, ys, ys', by rw [hcell]; rfl, .inl rfl⟩)
   ·simp only [hij, if_false]; exact .inl rfl
  ·rw [← hs', set_other _ _ hq]; exact Evo.refl _
 have hboxblk : ∀ k' b', β k' = some b' → b' ≠ b0 := by
  intro k' b' hb' e
  subst e
  have := h.boxes k'
  cases hv : (s (.box k')).v with
  | agg cs' =>
   obtain ⟨b2, ws2, el2, lo2, hi2, g1, g2, g3, g4, g5⟩ := BoxRel.cell h hv
   rw [hb'] at g1
   cases g1
   rw [g2] at hω0
   cases hω0
  | one c => rw [hv] at this; exact this.elim
  | tup x => rw [hv] at this; exact this.elim
  | undef => rw [hv] at this; simp only [BoxRel] at this; rw [this] at hb'; cases hb'
 have hhdr : ∀ q i, hdr K β a w' q i = hdr K β a w q i := by
  intro q i
  cases q with
  | tmp t => rfl
  | arg i => rfl
  | box k' =>
   simp only [hdr]
   cases hb' : β k' with
   | none => rfl
   | some b' => simp only [Option.bind_some]; exact cell_of_heap (hw.other b' (hboxblk k' b' hb')) _ _
 have hlift : ∀ (c : C) (u : Value), (∀ (e : Nat) (xs : List (List D)) (b1 : Nat), c = .own e xs → blkOf u = some b1 → b1 ≠ b0) → CRel K β Z s a w c u → CRel K β Z s' a w' c u := fun c u hcu h1 =>
  CRel.step (fun _ _ h => h) (fun b' hb' => ⟨hw.other b' (fun e => hnz (e ▸ hb')), hb'⟩) hevo (fun q i _ _ => hhdr q i) (fun e xs b1 h2 h3 => hw.other _ (hcu e xs b1 h2 h3)) h1
 have hne_of : ∀ (q : Res) (i e' : Nat) (xs : List (List D)) (u' : Value) (b' : Nat), (s q).v.cells[i]? = some (.own e' xs) → ¬ (q = r ∧ i = j) → hdr K β a w q i = some u' → blkOf u' = some b' → b' ≠ b0 := by
  intro q i e' xs u' b' hc1 hn hh1 hb1 hb
  by_cases hq : q.isArg = true
  ·cases q with
   | arg i' =>
    obtain ⟨g1, g2⟩ := h.argown i' i e' xs u' b' hc1 hh1 hb1
    rw [hb] at g1 g2
    exact g2 (hE g1)
   | tmp t => simp [Res.isArg] at hq
   | box k => simp [Res.isArg] at hq
  ·have := (h.own q i e' xs u' b' (by simpa using hq) hc1 hh1 hb1).1
   rw [hb, hω0] at this
   simp only [Option.some.injEq, Prod.mk.injEq] at this
   exact hn ⟨this.1.symm, this.2.symm⟩
 have hliftI : ∀ (q : Res) (i : Nat) (c : C) (u : Value), ¬ (q = r ∧ i = j) → (s q).v.cells[i]? = some c → hdr K β a w q i = some u → CRel K β Z s a w c u → CRel K β Z s' a w' c u := by
  intro q i c u hn hc1 hu
  refine hlift c u fun e' xs b1 h1 h2 => ?_
  subst h1
  exact hne_of q i e' xs u b1 hc1 hn hu h2
 have hcellI : ∀ (q : Res) (i : Nat) (c : C) (u : Value), (s' q).v.cells[i]? = some c → hdr K β a w q i = some u → (∀ c0, (s q).v.cells[i]? = some c0 → CRel K β Z s a w c0 u) → CRel K β Z s' a w' c u := by
  intro q i c u hc1 hu h0
  rw [hcells] at hc1
  by_cases hqr : q = r
  ·subst hqr
   rw [if_pos rfl] at hc1
   rcases cells_set hc1 with ⟨rfl, rfl⟩ | ⟨h1, h2⟩
   ·rw [hh] at hu; cases hu; exact hnew s'
   ·exact hliftI q i c u (fun hx => h1 hx.2) h2 hu (h0 c h2)
  ·rw [if_neg hqr] at hc1
   exact hliftI q i c u (fun hx => hqr hx.1) hc1 hu (h0 c hc1)
 have hshape : ∀ (q : Res) (v : Value), SVRel Tru v (s q).v → SVRel Tru v (s' q).v := by
  intro q v hv
  rw [hcells]
  split
  ·rename_i hq; subst hq; exact SVRel.setCell hv fun _ _ => trivial
  ·exact hv
 have hlenc : ∀ q, (s' q).v.cells.length = (s q).v.cells.length := by
  intro q
  rw [hcells]
  split
  ·rename_i hq; subst hq; rw [setCell_cells]; simp
  ·rfl
 have hundef : ∀ q, (s' q).v ≠ .undef → (s q).v ≠ .undef := by
  intro q hq e
  apply hq
  rw [hcells]
  split
  ·rename_i hqr; subst hqr; rw [e]; rfl
  ·exact e
 have hsv : ∀ (q : Res) (v : Value), (∀ i, hdr K β a w q i = (flat v)[i]?) → SVRel (CRel K β Z s a w) v (s q).v → SVRel (CRel K β Z s' a w') v (s' q).v := by
  intro q v hq hv
  refine SVRel.of_flat (hshape q v hv.shape) fun hu => ?_
  have hf := hv.flat (hundef q hu)
  refine All2.of_get (by rw [hf.length, hlenc]) fun i u c hu' hc' => ?_
  refine hcellI q i c u hc' (by rw [hq]; exact hu') fun c0 hc0 => ?_
  obtain ⟨u2, h1, h2⟩ := hf.get hc0
  rw [hu'] at h1
  cases h1
  exact h2
 refine ⟨h.size, h.defers, hw.os.trans h.os, hw.tape.trans h.tape, hw.output.trans h.output, by rw [hw.size]; exact h.base, ?_, fun b' hb' => by rw [hw.size]; exact h.zin b' hb', h.zold, ?_, ?_, ?_, ?_, ?_, ?_, ?_, h.βold⟩
 ·intro b' hb' hEb
  rw [hw.other b' (fun e => by subst e; exact hEb (hE hb'))]
  exact h.frame b' hb' hEb
 ·intro b' hb'
  rcases h.znew b' hb' with g | g | g | ⟨i, j', e', ys', u', g1, g2, g3⟩
  ·exact .inl g
  ·exact .inr (.inl g)
  ·exact .inr (.inr (.inl g))
  ·exact .inr (.inr (.inr ⟨i, j', e', ys', u', by rw [hcells, if_neg (by rintro rfl; simp [Res.isArg] at hr)]; exact g1, g2, g3⟩))
 ·intro t; exact hsv (.tmp t) _ (fun _ => rfl) (h.tmps t)
 ·intro i; exact hsv (.arg i) _ (fun _ => rfl) (h.args i)
 ·intro k
  have hb := h.boxes k
  cases hv : (s (.box k)).v with
  | agg cs =>
   obtain ⟨b2, ws2, el2, lo2, hi2, g1, g2, g3, g4, g5⟩ := BoxRel.cell h hv
   have hv' : ∃ cs', (s' (.box k)).v = .agg cs' ∧ cs'.length = cs.length := by
    rw [hcells]
    split
    ·rename_i hk; rw [← hk, hv]; exact ⟨_, rfl, by simp⟩
    ·exact ⟨cs, hv, rfl⟩
   obtain ⟨cs', hv', hl'⟩ := hv'
   rw [hv']
   refine ⟨b2, ws2, el2, lo2, hi2, g1, g2, by rw [hw.other b2 (hboxblk k b2 g1)]; exact g3, g4, All2.of_get (by rw [g5.length, hl']) fun i u c hu' hc' => ?_⟩
   refine hcellI (.box k) i c u (by rw [hv']; exact hc') (by rw [hdr_box g1 g3]; exact hu') fun c0 hc0 => ?_
   rw [hv] at hc0
   obtain ⟨u2, h1, h2⟩ := g5.get hc0
   rw [hu'] at h1
   cases h1
   exact h2
  | one c => rw [hv] at hb; exact hb.elim
  | tup x => rw [hv] at hb; exact hb.elim
  | undef =>
   rw [hv] at hb
   rw [hcells]
   split
   ·rename_i hk; subst hk; rw [hv] at hcell; simp [SV.cells] at hcell
   ·rw [hv]; exact hb
 ·intro q i e1 xs u1 b1 hq hc1 hh1 hb1
  rw [hhdr] at hh1
  rcases hownOld q i e1 xs hc1 with ⟨rfl, rfl, rfl, rfl⟩ | ⟨g1, g2⟩
  ·rw [hh] at hh1
   cases hh1
   rw [hb0] at hb1
   cases hb1
   exact ⟨hω0, hwr'⟩
  ·obtain ⟨f1, f2⟩ := h.own q i e1 xs u1 b1 hq g1 hh1 hb1
   exact ⟨f1, f2.mono hb1 (hw.other _ (hne_of q i e1 xs u1 b1 g1 g2 hh1 hb1))⟩
 ·intro i j' e1 xs u1 b1 hc1 hh1 hb1
  rcases hownOld _ _ _ _ hc1 with ⟨rfl, _⟩ | ⟨g1, g2⟩
  ·simp [Res.isArg] at hr
  ·exact h.argown i j' e1 xs u1 b1 g1 hh1 hb1
 ·intro b' g hb'
  rw [hw.size]
  exact h.ωok b' g hb'
theorem Rel.setRow (h : Rel K β ω Z s a w) {r : Res} {j e : Nat} {ys ys' : List (List D)} (hm : isMap e = false) (hc : (s r).at j = .own e ys) (hr : r.isArg = false) {ad : Addr} {len cap : Nat} (hh : hdr K β a w r j = some (.slice (some ad) len cap))
  {ws' ws : Array Value} {el : TypeId} {fz : Nat × Nat} {w' : World} (hw : Wrote w w' ad.block ws ws' el fz) (hold : w.heap[ad.block]? = some (.cells ws el fz)) (hlen : ys'.length = ys.length)
  (hrows : RowsRel w' Z e ys' ad.block ad.off) :
  Rel K β ω Z (s.set r { s r with cv := (s r).cv + 1, v := (s r).v.setCell j (.own e ys') }) a w' := by
 have hcell := at_cells hc (by simp)
 obtain ⟨hω0, hwr⟩ := h.own r j e ys _ ad.block hr hcell hh rfl
 obtain ⟨u, hu1, hcu⟩ := h.cell hcell
 obtain ⟨ad2, cap2, hu2, hsp, hle, hrows0⟩ := (CRel.own_sl hm).1 hcu
 rw [hh] at hu1
 cases hu1
 cases hu2
 refine h.setOwn hc hr hh rfl hw.chg ?_ fun s' => (CRel.own_sl hm).2 ⟨ad, cap, by rw [hlen], hsp, by rw [hlen]; exact hle, hrows⟩
 obtain ⟨cs, el2, lo, hi, f1, f2, f3⟩ := hwr
 rw [hold] at f1
 cases f1
 exact ⟨ws', _, lo, hi, hw.here, by rw [hw.len]; exact f2, fun o ho => f3 o (by rw [← hw.len]; exact ho)⟩
theorem Rel.setMap (h : Rel K β ω Z s a w) {r : Res} {j e : Nat} {ys ys' : List (List D)} (hm : isMap e = true) (hc : (s r).at j = .own e ys) (hr : r.isArg = false) {b : Nat} (hh : hdr K β a w r j = some (mpV e b))
  {w' : World} (hw : Chg w w' b) (hrows : MapAt w' Z e ys' b) :
  Rel K β ω Z (s.set r { s r with cv := (s r).cv + 1, v := (s r).v.setCell j (.own e ys') }) a w' := by
 exact h.setOwn hc hr hh (mpV_blk ..) hw (mpV_wr _ hrows) fun s' => (CRel.own_mp hm).2 ⟨b, rfl, hrows⟩
theorem Rel.writeFree (h : Rel K β ω Z s a w) {b : Nat} {r0 : Res} {i0 : Nat} (hω : ω b = some (r0, some i0)) (hfree : Free K β s a w b) {ws' ws : Array Value} {el : TypeId} {fz : Nat × Nat} {w' : World} (hw : Wrote w w' b ws ws' el fz) :
  Rel K β ω Z s a w' ∧ Free K β s a w' b ∧ (∀ (c : C) (u : Value), (∀ (e : Nat) (xs : List (List D)) (b1 : Nat), c = .own e xs → blkOf u = some b1 → b1 ≠ b) → CRel K β Z s a w c u → CRel K β Z s a w' c u) ∧ (∀ q i, hdr K β a w' q i = hdr K β a w q i) := by
 obtain ⟨hnz, hlt, hE⟩ := h.ωok _ _ hω
 have hboxblk : ∀ k' b', β k' = some b' → b' ≠ b := by
  intro k' b' hb' e
  subst e
  have := h.boxes k'
  cases hv : (s (.box k')).v with
  | agg cs' =>
   obtain ⟨b2, ws2, el2, lo2, hi2, g1, g2, g3, g4, g5⟩ := BoxRel.cell h hv
   rw [hb'] at g1
   cases g1
   rw [g2] at hω
   cases hω
  | one c => rw [hv] at this; exact this.elim
  | tup x => rw [hv] at this; exact this.elim
  | undef => rw [hv] at this; simp only [BoxRel] at this; rw [this] at hb'; cases hb'
 have hhdr : ∀ q i, hdr K β a w' q i = hdr K β a w q i := by
  intro q i
  cases q with
  | tmp t => rfl
  | arg i => rfl
  | box k' =>
   simp only [hdr]
   cases hb' : β k' with
   | none => rfl
   | some b' => simp only [Option.bind_some]; exact cell_of_heap (hw.other b' (hboxblk k' b' hb')) _ _
 have hlift : ∀ (c : C) (u : Value), (∀ (e : Nat) (xs : List (List D)) (b1 : Nat), c = .own e xs → blkOf u = some b1 → b1 ≠ b) → CRel K β Z s a w c u → CRel K β Z s a w' c u := fun c u hcu h1 =>
  CRel.step (fun _ _ h => h) (fun b' hb' => ⟨hw.other b' (fun e => hnz (e ▸ hb')), hb'⟩) (fun _ => Evo.refl _) (fun q i _ _ => hhdr q i) (fun e xs b1 h2 h3 => hw.other _ (hcu e xs b1 h2 h3)) h1
 have hne_of : ∀ (q : Res) (i e' : Nat) (xs : List (List D)) (u' : Value) (b' : Nat), (s q).v.cells[i]? = some (.own e' xs) → hdr K β a w q i = some u' → blkOf u' = some b' → b' ≠ b := by
  intro q i e' xs u' b' hc1 hh1 hb1 hb
  by_cases hq : q.isArg = true
  ·cases q with
   | arg i' =>
    obtain ⟨g1, g2⟩ := h.argown i' i e' xs u' b' hc1 hh1 hb1
    rw [hb] at g1 g2
    exact g2 (hE g1)
   | tmp t => simp [Res.isArg] at hq
   | box k => simp [Res.isArg] at hq
  ·exact hfree q i e' xs u' b' (by simpa using hq) hc1 hh1 hb1 hb
 have hliftI : ∀ (q : Res) (i : Nat) (c : C) (u : Value), (s q).v.cells[i]? = some c → hdr K β a w q i = some u → CRel K β Z s a w c u → CRel K β Z s a w' c u := by
  intro q i c u hc1 hu
  refine hlift c u fun e' xs b1 h1 h2 => ?_
  subst h1
  exact hne_of q i e' xs u b1 hc1 hu h2
 refine ⟨⟨h.size, h.defers, hw.os.trans h.os, hw.tape.trans h.tape, hw.output.trans h.output, by rw [hw.size]; exact h.base, ?_, fun b' hb' => by rw [hw.size]; exact h.zin b' hb', h.zold, h.znew, ?_, ?_, ?_, ?_, h.argown, ?_, h.βold⟩, ?_, hlift, hhdr⟩
 ·intro b' hb' hEb
  rw [hw.other b' (fun e => by subst e; exact hEb (hE hb'))]
  exact h.frame b' hb' hEb
 ·intro t; exact SVRel.monoI (fun j c u hc hu => hliftI (.tmp t) j c u hc hu) (h.tmps t)
 ·intro i; exact SVRel.monoI (fun j c u hc hu => hliftI (.arg i) j c u hc hu) (h.args i)
 ·intro k
  have hb := h.boxes k
  cases hv : (s (.box k)).v with
  | agg cs =>
   obtain ⟨b2, ws2, el2, lo2, hi2, g1, g2, g3, g4, g5⟩ := BoxRel.cell h hv
   refine ⟨b2, ws2, el2, lo2, hi2, g1, g2, by rw [hw.other b2 (hboxblk k b2 g1)]; exact g3, g4, All2.of_get g5.length fun j u c hu hc => ?_⟩
   obtain ⟨u', h1, h2⟩ := g5.get hc
   rw [hu] at h1
   cases h1
   exact hliftI (.box k) j c u (by rw [hv]; exact hc) (by rw [hdr_box g1 g3]; exact hu) h2
  | one c => rw [hv] at hb; exact hb.elim
  | tup x => rw [hv] at hb; exact hb.elim
  | undef => rw [hv] at hb; exact hb
 ·intro q i e1 xs u1 b1 hq hc1 hh1 hb1
  rw [hhdr] at hh1
  obtain ⟨f1, f2⟩ := h.own q i e1 xs u1 b1 hq hc1 hh1 hb1
  exact ⟨f1, f2.mono hb1 (hw.other _ (hne_of q i e1 xs u1 b1 hc1 hh1 hb1))⟩
 ·intro b' g hb'
  rw [hw.size]
  exact h.ωok b' g hb'
 ·intro q i e1 xs u1 b1 hq hc1 hh1 hb1
  rw [hhdr] at hh1
  exact hfree q i e1 xs u1 b1 hq hc1 hh1 hb1
end
end Go.Vs
namespace Go.Vs
def NoOwn (c : C) : Prop := ∀ e xs, c ≠ .own e xs
section
variable {K : Ctx} {β : Key → Option Nat} {ω : Nat → Option Holder} {Z : Nat → Prop} {s : St} {a : Act} {w : World}
theorem bcell_noOwn (r : Res) (x : RV) (j : Nat) (c : C) : NoOwn (bcell r x j c) := by
 intro e xs h
 cases c <;> simp [bcell] at h
theorem Rel.bcell (h : Rel K β ω Z s a w) {r : Res} {j : Nat} {c : C} {u : Value} (hc : (s r).v.cells[j]? = some c) (hu : hdr K β a w r j = some u) (hcu : CRel K β Z s a w c u) :
  CRel K β Z s a w (Vs.bcell r (s r) j c) u := by
 cases c with
 | own e xs =>
  simp only [Vs.bcell]
  by_cases he : isMap e = true
  ·obtain ⟨b, h1, h2⟩ := (CRel.own_mp he).1 hcu
   exact (CRel.bor_mp he).2 ⟨b, h1, Nat.le_refl _, Nat.le_refl _, fun _ _ => ⟨by rw [hu, h1], xs, .inl (at_of_cells hc), fun _ => rfl⟩⟩
  ·have he : isMap e = false := by simpa using he
   obtain ⟨ad, cap, h1, h2, h3, h4⟩ := (CRel.own_sl he).1 hcu
   exact (CRel.bor_sl he).2 ⟨ad, cap, h1, h2, h3, Nat.le_refl _, Nat.le_refl _, fun _ _ => ⟨ad, xs.length, cap, by rw [hu, h1], h2, rfl, .inl (by simp), by omega, by omega, by omega, h3, ⟨xs, .inl (at_of_cells hc), fun _ => by simp⟩⟩⟩
 | _ => exact hcu
theorem bcells_length (r : Res) (x : RV) : ∀ (cs : List C) (j : Nat), (bcells r x j cs).length = cs.length
 | [], _ => rfl
 | c :: cs, j => by simp [bcells, bcells_length r x cs (j + 1)]
theorem bcells_get (r : Res) (x : RV) : ∀ (cs : List C) (j i : Nat), (bcells r x j cs)[i]? = (cs[i]?).map (bcell r x (j + i))
 | [], _, _ => by simp [bcells]
 | c :: cs, j, 0 => by simp [bcells]
 | c :: cs, j, i + 1 => by
  simp only [bcells, List.getElem?_cons_succ]
  rw [bcells_get r x cs (j + 1) i, show j + 1 + i = j + (i + 1) by omega]
theorem btup_flat (r : Res) (x : RV) : ∀ (vs : List (Bool × List C)) (j : Nat), (btup r x j vs).flatMap (·.2) = bcells r x j (vs.flatMap (·.2))
 | [], _ => by simp [btup, bcells]
 | (b, cs) :: vs, j => by
  simp only [btup, List.flatMap_cons, btup_flat r x vs]
  have : ∀ (l m : List C) (j : Nat), bcells r x j (l ++ m) = bcells r x j l ++ bcells r x (j + l.length) m := by
   intro l
   induction l with
   | nil => intro m j; simp [bcells]
   | cons c l ih => intro m j; simp [bcells, ih, show j + 1 + l.length = j + (l.length + 1) by omega]
  rw [this]
theorem copy_cells (x : RV) (r : Res) : (x.copy r).cells = bcells r x 0 x.v.cells := by
 unfold RV.copy
 cases x.v with
 | one c => simp [SV.cells, bcells]
 | agg cs => simp [SV.cells]
 | tup vs => simp [SV.cells, btup_flat]
 | undef => simp [SV.cells, bcells]
theorem btup_shape (r : Res) (x : RV) : ∀ {vs : List Value} {xs : List (Bool × List C)} (j : Nat), All2 (TRel Tru) vs xs → All2 (TRel Tru) vs (btup r x j xs)
 | [], [], _, _ => trivial
 | v :: vs, (b, cs) :: xs, j, h => by
  refine ⟨?_, btup_shape r x _ h.2⟩
  have h1 := h.1
  unfold TRel at h1 ⊢
  cases b with
  | true =>
   simp only [if_true] at h1 ⊢
   obtain ⟨ws, rfl, g⟩ := h1
   exact ⟨ws, rfl, All2.of_get (by rw [g.length, bcells_length]) fun _ _ _ _ _ => trivial⟩
  | false =>
   simp only [Bool.false_eq_true, if_false] at h1 ⊢
   obtain ⟨c, rfl, g, _⟩ := h1
   exact ⟨bcell r x j c, by simp [bcells], g, trivial⟩
theorem copy_shape {x : RV} {r : Res} {v : Value} (h : SVRel Tru v x.v) : SVRel Tru v (x.copy r) := by
 unfold RV.copy
 cases hx : x.v with
 | one c => rw [hx] at h; exact ⟨h.1, trivial⟩
 | agg cs =>
  rw [hx] at h
  obtain ⟨ws, h1, h2⟩ := h
  exact ⟨ws, h1, All2.of_get (by rw [h2.length, bcells_length]) fun _ _ _ _ _ => trivial⟩
 | tup vs => rw [hx] at h; obtain ⟨ws, h1, h2⟩ := h; exact ⟨ws, h1, btup_shape r x 0 h2⟩
 | undef => trivial
theorem Rel.copy (h : Rel K β ω Z s a w) {r : Res} {v : Value} (hv : SVRel (CRel K β Z s a w) v (s r).v) (hh : ∀ j, hdr K β a w r j = (flat v)[j]?) :
  SVRel (CRel K β Z s a w) v ((s r).copy r) ∧ (∀ c ∈ ((s r).copy r).cells, NoOwn c) := by
 constructor
 ·refine SVRel.of_flat (copy_shape hv.shape) fun hu => ?_
  have hu' : (s r).v ≠ .undef := fun e => hu (by simp [RV.copy, e])
  have hf := hv.flat hu'
  rw [copy_cells]
  refine All2.of_get (by rw [hf.length, bcells_length]) fun j u c hju hc => ?_
  rw [bcells_get] at hc
  cases hc0 : (s r).v.cells[j]? with
  | none => rw [hc0] at hc; cases hc
  | some c0 =>
   rw [hc0] at hc
   simp only [Option.map_some, Nat.zero_add, Option.some.injEq] at hc
   subst hc
   obtain ⟨u', h1, h2⟩ := hf.get hc0
   rw [hju] at h1
   cases h1
   exact h.bcell hc0 (by rw [hh]; exact hju) h2
 ·intro c hc
  rw [copy_cells] at hc
  obtain ⟨j, hj⟩ := List.getElem?_of_mem hc
  rw [bcells_get] at hj
  cases hc0 : (s r).v.cells[j]? with
  | none => rw [hc0] at hj; cases hj
  | some c0 =>
   rw [hc0] at hj
   simp only [Option.map_some, Option.some.injEq] at hj
   subst hj
   exact bcell_noOwn _ _ _ _
theorem reflect_rel {v : Value} {d : D} (h : reflect v = some d) : isOne v = true ∧ DRel w Z d v := by
 unfold reflect at h
 split at h <;> first | (cases h; exact ⟨rfl, rfl⟩) | (cases h; done) | skip
 all_goals (cases h; exact ⟨rfl, by simp [DRel, NulRel]⟩)
theorem reflectAll_rel : ∀ {vs : List Value} {ds : List D}, reflectAll vs = some ds → All2 (fun u c => CRel K β Z s a w c u) vs (ds.map .d)
 | [], ds, h => by simp [reflectAll] at h; subst h; trivial
 | v :: vs, ds, h => by
  unfold reflectAll at h
  split at h
  ·rename_i d ds' h1 h2
   cases h
   exact ⟨(reflect_rel h1).2, reflectAll_rel h2⟩
  ·cases h
theorem ev_spec (h : Rel K β ω Z s a w) {x : Operand} {v : SV} {s' : St} (he : (ev x).exec s = some (v, s')) :
  s' = s ∧ SVRel (CRel K β Z s a w) (a.eval x) v ∧ (∀ c ∈ v.cells, NoOwn c) ∧ v ≠ .undef := by
 cases x with
 | tmp t =>
  simp only [ev, Prog.exec] at he
  have hcp := h.copy (r := .tmp t) (h.tmps t) (fun _ => rfl)
  have key : ∀ q : SV, (s (.tmp t)).v ≠ .undef → (Prog.ret ((s (.tmp t)).copy (.tmp t))).exec s = some (v, s') →
    s' = s ∧ SVRel (CRel K β Z s a w) (a.eval (.tmp t)) v ∧ (∀ c ∈ v.cells, NoOwn c) ∧ v ≠ .undef := by
   intro _ hne he
   simp only [Prog.exec, Option.some.injEq, Prod.mk.injEq] at he
   obtain ⟨rfl, rfl⟩ := he
   refine ⟨rfl, hcp.1, hcp.2, ?_⟩
   unfold RV.copy
   split <;> first | (simp; done) | (rename_i hx; exact absurd hx hne)
  cases hx : (s (.tmp t)).v with
  | undef => rw [hx] at he; simp [Prog.exec] at he
  | one c => rw [hx] at he; exact key .undef (by simp [hx]) he
  | agg c => rw [hx] at he; exact key .undef (by simp [hx]) he
  | tup c => rw [hx] at he; exact key .undef (by simp [hx]) he
 | const v0 =>
  have one : ∀ d, reflect v0 = some d → (Prog.ret (SV.one (.d d))).exec s = some (v, s') → s' = s ∧ SVRel (CRel K β Z s a w) (a.eval (.const v0)) v ∧ (∀ c ∈ v.cells, NoOwn c) ∧ v ≠ .undef := by
   intro d hd he
   simp only [Prog.exec, Option.some.injEq, Prod.mk.injEq] at he
   obtain ⟨rfl, rfl⟩ := he
   obtain ⟨h1, h2⟩ := reflect_rel (w := w) (Z := Z) hd
   exact ⟨rfl, ⟨h1, h2⟩, by simp [SV.cells, NoOwn], by simp⟩
  cases v0 with
  | agg cs =>
   simp only [ev] at he
   cases hr : reflectAll cs.toList with
   | none => rw [hr] at he; simp [Prog.exec] at he
   | some ds =>
    rw [hr] at he
    simp only [Prog.exec, Option.some.injEq, Prod.mk.injEq] at he
    obtain ⟨rfl, rfl⟩ := he
    exact ⟨rfl, ⟨cs, rfl, reflectAll_rel hr⟩, by simp [SV.cells, NoOwn], by simp⟩
  | _ =>
   simp only [ev] at he
   split at he
   ·rename_i d hd; exact one d hd he
   ·simp [Prog.exec] at he
 | func f =>
  simp only [ev, Prog.exec, Option.some.injEq, Prod.mk.injEq] at he
  obtain ⟨rfl, rfl⟩ := he
  exact ⟨rfl, ⟨rfl, #[], rfl, trivial⟩, by simp [SV.cells, NoOwn], by simp⟩
 | global g => simp [ev, Prog.exec] at he
theorem exec_bind {α γ : Type} (p : Prog α) (f : α → Prog γ) : ∀ (s : St), (p.bind f).exec s = (p.exec s).bind fun x => (f x.1).exec x.2 := by
 induction p with
 | ret a => intro s; simp [Prog.bind, Prog.exec]
 | fail => intro s; simp [Prog.bind, Prog.exec]
 | get r k ih => intro s; simp [Prog.bind, Prog.exec, ih]
 | put r x k ih => intro s; simp [Prog.bind, Prog.exec, ih]
theorem exec_bind' {α γ : Type} {p : Prog α} {f : α → Prog γ} {s s' : St} {y : γ} (h : (p >>= f).exec s = some (y, s')) : ∃ x s1, p.exec s = some (x, s1) ∧ (f x).exec s1 = some (y, s') := by
 change (p.bind f).exec s = _ at h
 rw [exec_bind] at h
 cases hp : p.exec s with
 | none => rw [hp] at h; cases h
 | some x => rw [hp] at h; exact ⟨x.1, x.2, rfl, h⟩
theorem exec_ret {α : Type} {x y : α} {s s' : St} (h : (Prog.ret x).exec s = some (y, s')) : y = x ∧ s' = s := by
 simp only [Prog.exec, Option.some.injEq, Prod.mk.injEq] at h
 exact ⟨h.1.symm, h.2.symm⟩
theorem exec_need {p : Prop} [Decidable p] {y : Unit} {s s' : St} (h : (need p).exec s = some (y, s')) : p ∧ s' = s := by
 unfold need at h
 split at h
 ·rename_i hp; exact ⟨hp, (exec_ret h).2⟩
 ·simp [Prog.exec] at h
theorem ev1_spec (h : Rel K β ω Z s a w) {x : Operand} {c : C} {s' : St} (he : (ev1 x).exec s = some (c, s')) :
  s' = s ∧ isOne (a.eval x) = true ∧ CRel K β Z s a w c (a.eval x) ∧ NoOwn c := by
 obtain ⟨v, s1, h1, h2⟩ := exec_bind' he
 obtain ⟨rfl, hv, hn, _⟩ := ev_spec h h1
 cases v with
 | one c' =>
  obtain ⟨rfl, rfl⟩ := exec_ret h2
  exact ⟨rfl, hv.1, hv.2, hn _ (by simp [SV.cells])⟩
 | _ => simp [asOne, Prog.exec] at h2
theorem freezeAt_spec (h : Rel K β ω Z s a w) {r : Res} {j : Nat} {y : Unit} {s' : St} (he : (freezeAt r j (s r)).exec s = some (y, s')) :
  ∃ ω' Z', Rel K β ω' Z' s' a w ∧ Calm K β a ω Z s w ω' Z' s' w ∧ (∃ e ys, (s' r).at j = .d (.sl e ys) ∧ ((s r).at j = .own e ys ∨ (s r).at j = .d (.sl e ys))) := by
 unfold freezeAt at he
 split at he
 ·rename_i e ys hc
  simp only [putR, Prog.exec, Option.some.injEq, Prod.mk.injEq] at he
  obtain ⟨_, rfl⟩ := he
  have hcell := at_cells hc (by simp)
  have hat : (s.set r { s r with v := (s r).v.setCell j (.d (.sl e ys)) } r).at j = .d (.sl e ys) := by
   rw [set_same]
   refine at_of_cells ?_
   simp only [setCell_cells, List.getElem?_set]
   simp [(List.getElem?_eq_some_iff.1 hcell).1]
  obtain ⟨u0, g1, g2⟩ := h.cell hcell
  obtain ⟨b0, g3⟩ := CRel.own_blk g2
  by_cases hr : r.isArg = true
  ·cases r with
   | arg i =>
    obtain ⟨f1, f2⟩ := h.freezeArg hc g1 g3
    exact ⟨_, _, f1, f2, e, ys, hat, .inl hc⟩
   | tmp t => simp [Res.isArg] at hr
   | box k => simp [Res.isArg] at hr
  ·obtain ⟨f1, f2, f3⟩ := h.recell (c' := .d (.sl e ys)) hc (by simpa using hr) (.inr rfl) g1 g3 (ω' := fun b => if b = b0 then none else ω b) (Z' := fun b => Z b ∨ b = b0)
    (fun b => by simp) (fun b hb => by simp [hb]) (fun _ => by simp)
   exact ⟨_, _, f1, f2, e, ys, hat, .inl hc⟩
 ·rename_i e ys hc
  obtain ⟨_, rfl⟩ := exec_ret he
  exact ⟨ω, Z, h, Calm.refl, e, ys, hc, .inr hc⟩
 ·simp [Prog.exec] at he
def OwnRel (w : World) (Z : Nat → Prop) (e : Nat) (xs : List (List D)) (u : Value) : Prop :=
 (isMap e = false ∧ ∃ (ad : Addr) (cap : Nat), u = .slice (some ad) xs.length cap ∧ ad.spot = none ∧ xs.length ≤ cap ∧ RowsRel w Z e xs ad.block ad.off) ∨
 (isMap e = true ∧ ∃ b, u = mpV e b ∧ MapAt w Z e xs b)
theorem OwnRel.iff {e : Nat} {xs : List (List D)} {u : Value} : CRel K β Z s a w (.own e xs) u ↔ OwnRel w Z e xs u := by
 by_cases he : isMap e = true
 ·rw [CRel.own_mp he]; simp [OwnRel, he]
 ·have he : isMap e = false := by simpa using he
  rw [CRel.own_sl he]; simp [OwnRel, he]
theorem OwnRel.mono {Z' : Nat → Prop} (hZ : ∀ b, Z b → Z' b) {e : Nat} {xs : List (List D)} {u : Value} (h : OwnRel w Z e xs u) : OwnRel w Z' e xs u := by
 rcases h with ⟨he, ad, cap, h1, h2, h3, h4⟩ | ⟨he, b, h1, h2⟩
 ·exact .inl ⟨he, ad, cap, h1, h2, h3, RowsRel.mono (fun b hb => ⟨rfl, hZ b hb⟩) _ _ _ _ rfl h4⟩
 ·exact .inr ⟨he, b, h1, MapAt.mono (fun b hb => ⟨rfl, hZ b hb⟩) _ _ _ rfl h2⟩
theorem takeAt_spec (h : Rel K β ω Z s a w) {r : Res} {j : Nat} (hr : r.isArg = false) {y : Unit} {s' : St} (he : (takeAt r j (s r)).exec s = some (y, s')) (g : Holder) :
  ∃ e ys u b ω', (s r).at j = .own e ys ∧ hdr K β a w r j = some u ∧ blkOf u = some b ∧ OwnRel w Z e ys u ∧
   Rel K β ω' Z s' a w ∧ Calm K β a ω Z s w ω' Z s' w ∧ ω' b = some g ∧ WrV w e u ∧ Free K β s' a w b := by
 unfold takeAt at he
 split at he
 ·rename_i e ys hc
  simp only [putR, Prog.exec, Option.some.injEq, Prod.mk.injEq] at he
  obtain ⟨_, rfl⟩ := he
  have hcell := at_cells hc (by simp)
  obtain ⟨u, g1, g2⟩ := h.cell hcell
  obtain ⟨b, g3⟩ := CRel.own_blk g2
  obtain ⟨f1, f2, f3⟩ := h.recell (c' := .dead) hc hr (.inl rfl) g1 g3 (ω' := fun b' => if b' = b then some g else ω b') (Z' := Z) (fun b => by simp) (fun b hb => by simp [hb]) (fun hx => absurd rfl hx)
  exact ⟨e, ys, u, b, _, hc, g1, g3, OwnRel.iff.1 g2, f1, f2, by simp, (h.own r j e ys u b hr hcell g1 g3).2, f3⟩
 ·simp [Prog.exec] at he
theorem bor_rows (h : Rel K β ω Z s a w) {r : Res} {j hv cv e k : Nat} (hm : isMap e = false) {xs : List (List D)} {u : Value} (hc : CRel K β Z s a w (.bor r j hv cv e k xs) u) (h1 : (s r).hv = hv) (h2 : (s r).cv = cv) (hal : (s r).at j ≠ .dead) :
  ∃ ad cap, u = .slice (some ad) xs.length cap ∧ ad.spot = none ∧ xs.length ≤ cap ∧ (cap ≠ 0 → RowsRel w Z e xs ad.block ad.off) ∧
   ∃ ad0 len0 cap0 ys, hdr K β a w r j = some (.slice (some ad0) len0 cap0) ∧ ad.block = ad0.block ∧ (ad.off = ad0.off + k * e ∨ cap = 0) ∧ ad.off + cap * e ≤ ad0.off + cap0 * e ∧ cap + k = cap0 ∧ ((s r).at j = .own e ys ∨ (s r).at j = .d (.sl e ys)) ∧ xs = (ys.drop k).take xs.length := by
 obtain ⟨ad', cap', g1, g2, g3, _, _, g4⟩ := (CRel.bor_sl hm).1 hc
 obtain ⟨ad, len, cap, f1, f2, f3, f4, f4b, f5, f6, f7, f8⟩ := g4 h1 hal
 obtain ⟨ys, f9, f10'⟩ := f8
 have f10 := f10' h2
 refine ⟨ad', cap', g1, g2, g3, fun hne => ?_, ad, len, cap, ys, f1, f3, f4, ?_, f5, f9, f10⟩
 rotate_left
 ·rcases f4 with f4 | f4
  ·rw [f4, ← f5, Nat.add_mul]; omega
  ·subst f4; simpa using f4b
 have hoff : ad'.off = ad.off + k * e := f4.resolve_right hne
 have hrows : RowsRel w Z e ys ad.block ad.off := by
  rcases f9 with f9 | f9
  ·obtain ⟨u2, e1, hcu2⟩ := h.cell (at_cells f9 (by simp))
   obtain ⟨ad2, cap2, e2, _, _, e3⟩ := (CRel.own_sl hm).1 hcu2
   rw [f1] at e1; cases e1; cases e2; exact e3
  ·obtain ⟨u2, e1, hcu2⟩ := h.cell (at_cells f9 (by simp))
   obtain ⟨ad2, cap2, e2, _, _, e3⟩ := (DRel.sl_iff hm).1 hcu2
   rw [f1] at e1; cases e1; cases e2; exact e3
 rw [f10, f3, hoff]
 exact (hrows.drop k).take _
theorem bor_rows' (h : Rel K β ω Z s a w) {r : Res} {j hv cv e k : Nat} (hm : isMap e = false) {xs : List (List D)} {u : Value} (hc : CRel K β Z s a w (.bor r j hv cv e k xs) u) (h1 : (s r).hv = hv) (h2 : (s r).cv = cv) (hal : (s r).at j ≠ .dead) :
  ∃ ad cap, u = .slice (some ad) xs.length cap ∧ ad.spot = none ∧ xs.length ≤ cap ∧ RowsRel w Z e xs ad.block ad.off := by
 obtain ⟨ad, cap, g1, g2, g3, g4, _⟩ := bor_rows h hm hc h1 h2 hal
 refine ⟨ad, cap, g1, g2, g3, ?_⟩
 by_cases hcap : cap = 0
 ·subst hcap
  have : xs = [] := List.length_eq_zero_iff.1 (by omega)
  subst this
  trivial
 ·exact g4 hcap
theorem bor_map (h : Rel K β ω Z s a w) {r : Res} {j hv cv e k : Nat} (hm : isMap e = true) {xs : List (List D)} {u : Value} (hc : CRel K β Z s a w (.bor r j hv cv e k xs) u) (h1 : (s r).hv = hv) (h2 : (s r).cv = cv) (hal : (s r).at j ≠ .dead) :
  ∃ b, u = mpV e b ∧ hdr K β a w r j = some (mpV e b) ∧ ((s r).at j = .own e xs ∨ (s r).at j = .d (.sl e xs)) ∧ MapAt w Z e xs b := by
 obtain ⟨b, g1, _, _, g4⟩ := (CRel.bor_mp hm).1 hc
 obtain ⟨f1, ys, f2, f3⟩ := g4 h1 hal
 have := f3 h2
 subst this
 refine ⟨b, g1, f1, f2, ?_⟩
 rcases f2 with f2 | f2
 ·obtain ⟨u2, e1, hcu2⟩ := h.cell (at_cells f2 (by simp))
  obtain ⟨b2, e2, e3⟩ := (CRel.own_mp hm).1 hcu2
  rw [f1] at e1; cases e1; rw [mpV_inj e2]; exact e3
 ·obtain ⟨u2, e1, hcu2⟩ := h.cell (at_cells f2 (by simp))
  obtain ⟨b2, e2, _, e3⟩ := (DRel.mp_iff hm).1 hcu2
  rw [f1] at e1; cases e1; rw [mpV_inj e2]; exact e3
theorem bor_any (h : Rel K β ω Z s a w) {r : Res} {j hv cv e k : Nat} {xs : List (List D)} {u : Value} (hc : CRel K β Z s a w (.bor r j hv cv e k xs) u) (h1 : (s r).hv = hv) (h2 : (s r).cv = cv) (hal : (s r).at j ≠ .dead) :
  ∃ ys u0 b0, ((s r).at j = .own e ys ∨ (s r).at j = .d (.sl e ys)) ∧ hdr K β a w r j = some u0 ∧ blkOf u0 = some b0 ∧ blkOf u = some b0 ∧ OwnRel w Z e xs u ∧ (WrV w e u0 → WrV w e u) ∧
   ∀ Z' : Nat → Prop, (∀ b, Z b → Z' b) → (Live u0 → Z' b0) → DRel w Z' (.sl e xs) u := by
 by_cases hm : isMap e = true
 ·obtain ⟨b, rfl, g2, g3, g4⟩ := bor_map h hm hc h1 h2 hal
  exact ⟨xs, _, b, g3, g2, mpV_blk .., mpV_blk .., .inr ⟨hm, b, rfl, g4⟩, id, fun Z' hZ hl => (DRel.mp_iff hm).2 ⟨b, rfl, hl (mpV_live ..), MapAt.mono (fun b hb => ⟨rfl, hZ b hb⟩) _ _ _ rfl g4⟩⟩
 ·have hm : isMap e = false := by simpa using hm
  obtain ⟨ad, cap, rfl, g2, g3, g4⟩ := bor_rows' h hm hc h1 h2 hal
  obtain ⟨ad', cap', f1, _, _, _, ad0, len0, cap0, ys, f2, f3, f4, f5, f6, f7, f8⟩ := bor_rows h hm hc h1 h2 hal
  cases f1
  refine ⟨ys, _, ad0.block, f7, f2, rfl, by rw [← f3]; rfl, .inl ⟨hm, ad, cap, rfl, g2, g3, g4⟩, fun hw => ?_, fun Z' hZ hl => (DRel.sl_iff hm).2 ⟨ad, cap, rfl, ?_, g3, RowsRel.mono (fun b hb => ⟨rfl, hZ b hb⟩) _ _ _ _ rfl g4⟩⟩
  ·show Wr w ad.block (ad.off + cap * e)
   rw [f3]
   exact Wr.mono hw rfl f5
  ·by_cases hcap : cap = 0
   ·exact .inl hcap
   ·exact .inr ⟨g2, by rw [f3]; exact hl (show cap0 ≠ 0 by omega)⟩
end
end Go.Vs
namespace Go.Vs
section
variable {K : Ctx} {β : Key → Option Nat} {ω : Nat → Option Holder} {Z : Nat → Prop} {s : St} {a : Act} {w : World}
theorem alive_of_own {x : RV} {j e : Nat} {ys : List (List D)} (h : x.at j = .own e ys) : x.at j ≠ .dead := by rw [h]; simp
theorem alive_of_d {x : RV} {j : Nat} {d : D} (h : x.at j = .d d) : x.at j ≠ .dead := by rw [h]; simp
theorem Rel.frozen (h : Rel K β ω Z s a w) {r : Res} {j e : Nat} {ys : List (List D)} (hc : (s r).at j = .d (.sl e ys)) {u0 : Value} {b0 : Nat} (hh : hdr K β a w r j = some u0) (hb : blkOf u0 = some b0) : Live u0 → Z b0 := by
 obtain ⟨u, h1, hcu⟩ := h.cell (at_cells hc (by simp))
 rw [hh] at h1
 cases h1
 by_cases he : isMap e = true
 ·obtain ⟨b, rfl, h2, _⟩ := (DRel.mp_iff he).1 hcu
  rw [mpV_blk, Option.some.injEq] at hb
  subst hb
  exact fun _ => h2
 ·obtain ⟨ad2, cap2, rfl, h3, _⟩ := (DRel.sl_iff (by simpa using he)).1 hcu
  simp only [blkOf, Option.some.injEq] at hb
  subst hb
  exact fun hl => (h3.resolve_left hl).2
theorem stash_spec (h : Rel K β ω Z s a w) {self : Res × Nat} {take : Res → Bool} {c c' : C} {u : Value} {s' : St} (hcu : CRel K β Z s a w c u) (hno : NoOwn c)
  (he : (stash (some self) take c).exec s = some (c', s')) : ∃ ω' Z', Rel K β ω' Z' s' a w ∧ Calm K β a ω Z s w ω' Z' s' w ∧ PendC K β ω' Z' s' a w self.1 self.2 c' u := by
 have triv : c' = c → s' = s → ∃ ω' Z', Rel K β ω' Z' s' a w ∧ Calm K β a ω Z s w ω' Z' s' w ∧ PendC K β ω' Z' s' a w self.1 self.2 c' u := by
  rintro rfl rfl
  exact ⟨ω, Z, h, Calm.refl, PendC.of_not hno hcu⟩
 cases c with
 | bor r j hv cv e k xs =>
  simp only [stash] at he
  split at he
  ·obtain ⟨h1, h2⟩ := exec_ret he; exact triv h1 h2
  ·rename_i hr
   have hr' : r.isArg = false := by simpa using hr
   simp only [Prog.exec] at he
   obtain ⟨_, s1, h1, he⟩ := exec_bind' he
   obtain ⟨⟨hhv, hcv⟩, rfl⟩ := exec_need h1
   split at he
   ·rename_i e0 ys0 hat
    obtain ⟨ys, u0, b0, f7, f2, f3, f4, f5, f6, f8⟩ := bor_any h hcu hhv hcv (alive_of_own hat)
    have hee : e0 = e ∧ ys0 = ys := by
     rcases f7 with f7 | f7
     ·rw [hat] at f7; cases f7; exact ⟨rfl, rfl⟩
     ·rw [hat] at f7; cases f7
    obtain ⟨rfl, rfl⟩ := hee
    split at he
    ·obtain ⟨_, s2, h2, he⟩ := exec_bind' he
     obtain ⟨rfl, rfl⟩ := exec_ret he
     obtain ⟨e1, ys1, u1, b1, ω', t1, t2, t3, t4, t6, t7, t8, t9, t10⟩ := takeAt_spec h hr' h2 (self.1, some self.2)
     rw [hat] at t1
     cases t1
     rw [t2] at f2
     cases f2
     rw [t3] at f3
     cases f3
     refine ⟨ω', Z, t6, t7, OwnRel.iff.2 f5, fun e xs' b q1 q2 => ?_⟩
     cases q1
     rw [f4] at q2
     cases q2
     exact ⟨t8, f6 t9, t10⟩
    ·obtain ⟨_, s2, h2, he⟩ := exec_bind' he
     obtain ⟨rfl, rfl⟩ := exec_ret he
     obtain ⟨ω', Z', t1, t2, e2, ys2, t3, t4⟩ := freezeAt_spec h h2
     refine ⟨ω', Z', t1, t2, PendC.of_not (by simp [NoOwn]) ?_⟩
     exact f8 Z' (fun b hb => t2.z b hb) (t1.frozen t3 (by rw [t2.hdr]; exact f2) f3)
   ·rename_i e0 ys0 hat
    obtain ⟨rfl, rfl⟩ := exec_ret he
    obtain ⟨ys, u0, b0, f7, f2, f3, f4, f5, f6, f8⟩ := bor_any h hcu hhv hcv (alive_of_d hat)
    refine ⟨ω, Z, h, Calm.refl, PendC.of_not (by simp [NoOwn]) ?_⟩
    exact f8 Z (fun b hb => hb) (h.frozen hat f2 f3)
   ·simp [Prog.exec] at he
 | own e xs => exact absurd rfl (hno e xs)
 | dead => simp [stash, Prog.exec] at he
 | _ =>
  simp only [stash] at he
  obtain ⟨h1, h2⟩ := exec_ret he
  exact triv h1 h2
theorem stash_alive {self : Option (Res × Nat)} {take : Res → Bool} {c c' : C} {s s' : St} (he : (stash self take c).exec s = some (c', s')) : c ≠ .dead := by
 rintro rfl
 simp [stash, Prog.exec] at he
theorem stashes_alive {mk : Nat → Res × Nat} {take : Res → Bool} : ∀ {cs cs' : List C} {i : Nat} {s s' : St}, (stashes mk take i cs).exec s = some (cs', s') → ∀ c ∈ cs, c ≠ .dead
 | [], _, _, _, _, _, _, h => by simp at h
 | c :: cs, cs', i, s, s', he, x, hx => by
  simp only [stashes] at he
  obtain ⟨c1, s1, h1, he⟩ := exec_bind' he
  obtain ⟨cs1, s2, h2, he⟩ := exec_bind' he
  rcases List.mem_cons.1 hx with rfl | hx
  ·exact stash_alive h1
  ·exact stashes_alive h2 x hx
def PendL (K : Ctx) (β : Key → Option Nat) (ω : Nat → Option Holder) (Z : Nat → Prop) (s : St) (a : Act) (w : World) (mk : Nat → Res × Nat) : Nat → List Value → List C → Prop
 | _, [], [] => True
 | i, u :: us, c :: cs => PendC K β ω Z s a w (mk i).1 (mk i).2 c u ∧ PendL K β ω Z s a w mk (i + 1) us cs
 | _, _, _ => False
theorem PendL.lift {ω' : Nat → Option Holder} {Z' : Nat → Prop} {s' : St} {w' : World} (hr : Rel K β ω Z s a w) (k : Calm K β a ω Z s w ω' Z' s' w') {mk : Nat → Res × Nat} : ∀ {i : Nat} {us : List Value} {cs : List C},
  PendL K β ω Z s a w mk i us cs → PendL K β ω' Z' s' a w' mk i us cs
 | _, [], [], _ => trivial
 | _, _ :: _, _ :: _, h => ⟨k.pend hr h.1, PendL.lift hr k h.2⟩
theorem PendL.all {mk : Nat → Res × Nat} : ∀ {i : Nat} {us : List Value} {cs : List C}, PendL K β ω Z s a w mk i us cs → All2 (fun u c => CRel K β Z s a w c u) us cs
 | _, [], [], _ => trivial
 | _, _ :: _, _ :: _, h => ⟨h.1.1, PendL.all h.2⟩
theorem PendL.get {mk : Nat → Res × Nat} : ∀ {i j : Nat} {us : List Value} {cs : List C} {c : C} {u : Value}, PendL K β ω Z s a w mk i us cs → cs[j]? = some c → us[j]? = some u →
  PendC K β ω Z s a w (mk (i + j)).1 (mk (i + j)).2 c u
 | _, _, [], [], _, _, _, h, _ => by simp at h
 | i, 0, u :: us, c :: cs, c', u', h, hc, hu => by
  simp only [List.getElem?_cons_zero, Option.some.injEq] at hc hu
  subst hc; subst hu
  exact h.1
 | i, j + 1, u :: us, c :: cs, c', u', h, hc, hu => by
  have := PendL.get (j := j) h.2 (by simpa using hc) (by simpa using hu)
  rw [show i + (j + 1) = i + 1 + j by omega]
  exact this
theorem PendL.append {mk : Nat → Res × Nat} : ∀ {i : Nat} {us us' : List Value} {cs cs' : List C}, PendL K β ω Z s a w mk i us cs → PendL K β ω Z s a w mk (i + us.length) us' cs' → PendL K β ω Z s a w mk i (us ++ us') (cs ++ cs')
 | _, [], _, [], _, _, h => by simpa using h
 | i, u :: us, us', c :: cs, cs', h, k => ⟨h.1, PendL.append h.2 (by rw [show i + 1 + us.length = i + (u :: us).length by simp; omega]; exact k)⟩
theorem stashes_spec {mk : Nat → Res × Nat} {take : Res → Bool} : ∀ (cs : List C) (i : Nat) (us : List Value) (ω : Nat → Option Holder) (Z : Nat → Prop) (s s' : St) (cs' : List C), Rel K β ω Z s a w → All2 (fun u c => CRel K β Z s a w c u) us cs → (∀ c ∈ cs, NoOwn c) →
  (stashes mk take i cs).exec s = some (cs', s') → ∃ ω' Z', Rel K β ω' Z' s' a w ∧ Calm K β a ω Z s w ω' Z' s' w ∧ PendL K β ω' Z' s' a w mk i us cs' := by
 intro cs
 induction cs with
 | nil =>
  intro i us ω Z s s' cs' h hall _ he
  obtain ⟨rfl, rfl⟩ := exec_ret he
  cases us with
  | nil => exact ⟨ω, Z, h, Calm.refl, trivial⟩
  | cons u us => exact hall.elim
 | cons c cs ih =>
  intro i us ω Z s s' cs' h hall hno he
  cases us with
  | nil => exact hall.elim
  | cons u us =>
   simp only [stashes] at he
   obtain ⟨c1, s1, h1, he⟩ := exec_bind' he
   obtain ⟨cs1, s2, h2, he⟩ := exec_bind' he
   obtain ⟨rfl, rfl⟩ := exec_ret he
   obtain ⟨ω1, Z1, r1, k1, p1⟩ := stash_spec h hall.1 (hno c (List.mem_cons_self ..)) h1
   have hno' : ∀ x ∈ cs, NoOwn x := fun x hx => hno x (List.mem_cons_of_mem _ hx)
   obtain ⟨ω2, Z2, r2, k2, p2⟩ := ih (i + 1) us ω1 Z1 s1 _ cs1 r1 (hall.2.mono_mem fun u c hc hr => k1.crel h.zin (fun e xs _ hx _ => absurd hx (hno' c hc e xs)) hr) hno' h2
   exact ⟨ω2, Z2, r2, k1.trans k2, k2.pend r1 p1, p2⟩
def Pend (K : Ctx) (β : Key → Option Nat) (ω : Nat → Option Holder) (Z : Nat → Prop) (s : St) (a : Act) (w : World) (r : Res) (u : Value) (v : SV) : Prop :=
 SVRel (CRel K β Z s a w) u v ∧ ∀ (j : Nat) (c : C) (x : Value), v.cells[j]? = some c → (flat u)[j]? = some x → PendC K β ω Z s a w r j c x
theorem Pend.of_noOwn {r : Res} {u : Value} {v : SV} (h : SVRel (CRel K β Z s a w) u v) (hno : ∀ c ∈ v.cells, NoOwn c) : Pend K β ω Z s a w r u v :=
 ⟨h, fun j c x hc hx => PendC.of_not (hno c (List.mem_of_getElem? hc)) (by obtain ⟨x', h1, h2⟩ := h.cell hc; rw [hx] at h1; cases h1; exact h2)⟩
theorem Pend.of_list {r : Res} {u : Value} {v : SV} (hs : SVRel Tru u v) (h : PendL K β ω Z s a w (fun i => (r, i)) 0 (flat u) v.cells) : Pend K β ω Z s a w r u v :=
 ⟨SVRel.of_flat hs fun _ => h.all, fun j c x hc hx => by have := h.get hc hx; simpa using this⟩
theorem Rel.putPend (h : Rel K β ω Z s a w) {t : Nat} (ht : t < K.N) {u : Value} {v : SV} (hv : Pend K β ω Z s a w (.tmp t) u v) :
  Rel K β ω Z (s.set (.tmp t) { hv := (s (.tmp t)).hv + 1, cv := (s (.tmp t)).cv, v }) (a.put (some t) u) w :=
 h.putTmp ht hv.1 fun j e xs u1 b hc hx hb => by
  have := (hv.2 j _ _ hc hx).2 e xs b rfl hb
  exact ⟨this.1, this.2.1⟩
theorem stashTup_spec {r : Res} {take : Res → Bool} : ∀ (xs : List (Bool × List C)) (i : Nat) (vs : List Value) (ω : Nat → Option Holder) (Z : Nat → Prop) (s s' : St) (xs' : List (Bool × List C)), Rel K β ω Z s a w → All2 (TRel (CRel K β Z s a w)) vs xs → (∀ c ∈ xs.flatMap (·.2), NoOwn c) →
  (stashTup (fun i => (r, i)) take i xs).exec s = some (xs', s') → ∃ ω' Z', Rel K β ω' Z' s' a w ∧ Calm K β a ω Z s w ω' Z' s' w ∧ PendL K β ω' Z' s' a w (fun i => (r, i)) i (vs.flatMap fun v => v.cells.toList) (xs'.flatMap (·.2)) ∧ All2 (TRel Tru) vs xs' := by
 intro xs
 induction xs with
 | nil =>
  intro i vs ω Z s s' cs' h hall _ he
  obtain ⟨rfl, rfl⟩ := exec_ret he
  cases vs with
  | nil => exact ⟨ω, Z, h, Calm.refl, trivial, trivial⟩
  | cons u us => exact hall.elim
 | cons x xs ih =>
  intro i vs ω Z s s' cs' h hall hno he
  cases vs with
  | nil => exact hall.elim
  | cons v vs =>
   obtain ⟨b, cs⟩ := x
   simp only [stashTup] at he
   obtain ⟨c1, s1, h1, he⟩ := exec_bind' he
   obtain ⟨cs1, s2, h2, he⟩ := exec_bind' he
   obtain ⟨rfl, rfl⟩ := exec_ret he
   have hf := TRel.flat hall.1
   simp only [List.flatMap_cons, List.mem_append] at hno
   obtain ⟨ω1, Z1, r1, k1, p1⟩ := stashes_spec (mk := fun i => (r, i)) (take := take) cs i v.cells.toList ω Z s s1 c1 h hf (fun c hc => hno c (.inl hc)) h1
   have hno' : ∀ c ∈ xs.flatMap (·.2), NoOwn c := fun c hc => hno c (.inr hc)
   obtain ⟨ω2, Z2, r2, k2, p2, q2⟩ := ih (i + cs.length) vs ω1 Z1 s1 _ cs1 r1 (hall.2.mono_mem fun v x hx hr => by
    have hx' : ∀ c ∈ x.2, NoOwn c := fun c hc => hno' c (List.mem_flatMap.2 ⟨x, hx, hc⟩)
    unfold TRel at hr ⊢
    split
    ·rename_i hb; simp only [hb, if_true] at hr
     obtain ⟨ws, g1, g2⟩ := hr
     exact ⟨ws, g1, g2.mono_mem fun u c hc hr => k1.crel h.zin (fun e xs _ hx1 _ => absurd hx1 (hx' c hc e xs)) hr⟩
    ·rename_i hb; simp only [hb] at hr
     obtain ⟨c, g1, g2, g3⟩ := hr
     exact ⟨c, g1, g2, k1.crel h.zin (fun e xs _ hx1 _ => absurd hx1 (hx' c (by simp [g1]) e xs)) g3⟩) hno' h2
   refine ⟨ω2, Z2, r2, k1.trans k2, ?_, ?_, q2⟩
   ·simp only [List.flatMap_cons]
    exact PendL.append (PendL.lift r1 k2 p1) (by rw [hf.length]; exact p2)
   ·have h3 := hall.1
    unfold TRel at h3 ⊢
    cases b with
    | true =>
     simp only [if_true] at h3 ⊢
     obtain ⟨ws, g1, g2⟩ := h3
     refine ⟨ws, g1, All2.of_get ?_ fun _ _ _ _ _ => trivial⟩
     have := p1.all.length
     rw [g1] at this
     exact this
    | false =>
     simp only [Bool.false_eq_true, if_false] at h3 ⊢
     obtain ⟨c, g1, g2, g3⟩ := h3
     have hl := p1.all.length
     rw [cells_of_isOne g2] at hl
     match c1, hl with
     | [d], _ => exact ⟨d, rfl, g2, trivial⟩
theorem stashSV_spec (h : Rel K β ω Z s a w) {r : Res} {take : Res → Bool} {v v' : SV} {u : Value} {s' : St} (hv : SVRel (CRel K β Z s a w) u v) (hno : ∀ c ∈ v.cells, NoOwn c)
  (he : (stashSV r take v).exec s = some (v', s')) : ∃ ω' Z', Rel K β ω' Z' s' a w ∧ Calm K β a ω Z s w ω' Z' s' w ∧ Pend K β ω' Z' s' a w r u v' := by
 cases v with
 | one c =>
  simp only [stashSV] at he
  obtain ⟨c1, s1, h1, he⟩ := exec_bind' he
  obtain ⟨rfl, rfl⟩ := exec_ret he
  obtain ⟨ω1, Z1, r1, k1, p1⟩ := stash_spec h hv.2 (hno c (by simp [SV.cells])) h1
  exact ⟨ω1, Z1, r1, k1, Pend.of_list ⟨hv.1, trivial⟩ (by rw [flat_of_isOne hv.1]; exact ⟨p1, trivial⟩)⟩
 | agg cs =>
  simp only [stashSV] at he
  obtain ⟨c1, s1, h1, he⟩ := exec_bind' he
  obtain ⟨rfl, rfl⟩ := exec_ret he
  obtain ⟨ws, rfl, hall⟩ := hv
  obtain ⟨ω1, Z1, r1, k1, p1⟩ := stashes_spec (mk := fun i => (r, i)) (take := take) cs 0 ws.toList ω Z s _ _ h hall (fun c hc => hno c hc) h1
  exact ⟨ω1, Z1, r1, k1, Pend.of_list ⟨ws, rfl, All2.of_get p1.all.length fun _ _ _ _ _ => trivial⟩ p1⟩
 | tup xs =>
  simp only [stashSV] at he
  obtain ⟨c1, s1, h1, he⟩ := exec_bind' he
  obtain ⟨rfl, rfl⟩ := exec_ret he
  obtain ⟨vs, rfl, hall⟩ := hv
  obtain ⟨ω1, Z1, r1, k1, p1, q1⟩ := stashTup_spec (r := r) (take := take) xs 0 vs.toList ω Z s _ _ h hall (fun c hc => hno c hc) h1
  exact ⟨ω1, Z1, r1, k1, Pend.of_list ⟨vs, rfl, q1⟩ p1⟩
 | undef => simp [stashSV, Prog.exec] at he
theorem moveCell_spec (h : Rel K β ω Z s a w) {self : Res × Nat} {o : Operand} {c c' : C} {u : Value} {s' : St} (hcu : CRel K β Z s a w c u) (hno : NoOwn c)
  (he : (moveCell self o c).exec s = some (c', s')) : ∃ ω' Z', Rel K β ω' Z' s' a w ∧ Calm K β a ω Z s w ω' Z' s' w ∧ PendC K β ω' Z' s' a w self.1 self.2 c' u := by
 have triv : c' = c → s' = s → ∃ ω' Z', Rel K β ω' Z' s' a w ∧ Calm K β a ω Z s w ω' Z' s' w ∧ PendC K β ω' Z' s' a w self.1 self.2 c' u := by
  rintro rfl rfl
  exact ⟨ω, Z, h, Calm.refl, PendC.of_not hno hcu⟩
 cases c with
 | bor r j hv cv e k xs =>
  simp only [moveCell] at he
  split at he
  ·exact stash_spec h hcu hno he
  ·obtain ⟨h1, h2⟩ := exec_ret he; exact triv h1 h2
 | own e xs => exact absurd rfl (hno e xs)
 | _ =>
  simp only [moveCell] at he
  obtain ⟨h1, h2⟩ := exec_ret he
  exact triv h1 h2
theorem moveCells_spec {r : Res} {o : Operand} : ∀ (cs : List C) (i : Nat) (us : List Value) (ω : Nat → Option Holder) (Z : Nat → Prop) (s s' : St) (cs' : List C), Rel K β ω Z s a w → All2 (fun u c => CRel K β Z s a w c u) us cs → (∀ c ∈ cs, NoOwn c) →
  (moveCells r o i cs).exec s = some (cs', s') → ∃ ω' Z', Rel K β ω' Z' s' a w ∧ Calm K β a ω Z s w ω' Z' s' w ∧ PendL K β ω' Z' s' a w (fun i => (r, i)) i us cs' := by
 intro cs
 induction cs with
 | nil =>
  intro i us ω Z s s' cs' h hall _ he
  obtain ⟨rfl, rfl⟩ := exec_ret he
  cases us with
  | nil => exact ⟨ω, Z, h, Calm.refl, trivial⟩
  | cons u us => exact hall.elim
 | cons c cs ih =>
  intro i us ω Z s s' cs' h hall hno he
  cases us with
  | nil => exact hall.elim
  | cons u us =>
   simp only [moveCells] at he
   obtain ⟨c1, s1, h1, he⟩ := exec_bind' he
   obtain ⟨cs1, s2, h2, he⟩ := exec_bind' he
   obtain ⟨rfl, rfl⟩ := exec_ret he
   obtain ⟨ω1, Z1, r1, k1, p1⟩ := moveCell_spec h hall.1 (hno c (List.mem_cons_self ..)) h1
   have hno' : ∀ x ∈ cs, NoOwn x := fun x hx => hno x (List.mem_cons_of_mem _ hx)
   obtain ⟨ω2, Z2, r2, k2, p2⟩ := ih (i + 1) us ω1 Z1 s1 _ cs1 r1 (hall.2.mono_mem fun u c hc hr => k1.crel h.zin (fun e xs _ hx _ => absurd hx (hno' c hc e xs)) hr) hno' h2
   exact ⟨ω2, Z2, r2, k1.trans k2, k2.pend r1 p1, p2⟩
theorem moveTup_spec {r : Res} {o : Operand} : ∀ (xs : List (Bool × List C)) (i : Nat) (vs : List Value) (ω : Nat → Option Holder) (Z : Nat → Prop) (s s' : St) (xs' : List (Bool × List C)), Rel K β ω Z s a w → All2 (TRel (CRel K β Z s a w)) vs xs → (∀ c ∈ xs.flatMap (·.2), NoOwn c) →
  (moveTup r o i xs).exec s = some (xs', s') → ∃ ω' Z', Rel K β ω' Z' s' a w ∧ Calm K β a ω Z s w ω' Z' s' w ∧ PendL K β ω' Z' s' a w (fun i => (r, i)) i (vs.flatMap fun v => v.cells.toList) (xs'.flatMap (·.2)) ∧ All2 (TRel Tru) vs xs' := by
 intro xs
 induction xs with
 | nil =>
  intro i vs ω Z s s' cs' h hall _ he
  obtain ⟨rfl, rfl⟩ := exec_ret he
  cases vs with
  | nil => exact ⟨ω, Z, h, Calm.refl, trivial, trivial⟩
  | cons u us => exact hall.elim
 | cons x xs ih =>
  intro i vs ω Z s s' cs' h hall hno he
  cases vs with
  | nil => exact hall.elim
  | cons v vs =>
   obtain ⟨b, cs⟩ := x
   simp only [moveTup] at he
   obtain ⟨c1, s1, h1, he⟩ := exec_bind' he
   obtain ⟨cs1, s2, h2, he⟩ := exec_bind' he
   obtain ⟨rfl, rfl⟩ := exec_ret he
   have hf := TRel.flat hall.1
   simp only [List.flatMap_cons, List.mem_append] at hno
   obtain ⟨ω1, Z1, r1, k1, p1⟩ := moveCells_spec (r := r) (o := o) cs i v.cells.toList ω Z s s1 c1 h hf (fun c hc => hno c (.inl hc)) h1
   have hno' : ∀ c ∈ xs.flatMap (·.2), NoOwn c := fun c hc => hno c (.inr hc)
   obtain ⟨ω2, Z2, r2, k2, p2, q2⟩ := ih (i + cs.length) vs ω1 Z1 s1 _ cs1 r1 (hall.2.mono_mem fun v x hx hr => by
    have hx' : ∀ c ∈ x.2, NoOwn c := fun c hc => hno' c (List.mem_flatMap.2 ⟨x, hx, hc⟩)
    unfold TRel at hr ⊢
    split
    ·rename_i hb; simp only [hb, if_true] at hr
     obtain ⟨ws, g1, g2⟩ := hr
     exact ⟨ws, g1, g2.mono_mem fun u c hc hr => k1.crel h.zin (fun e xs _ hx1 _ => absurd hx1 (hx' c hc e xs)) hr⟩
    ·rename_i hb; simp only [hb] at hr
     obtain ⟨c, g1, g2, g3⟩ := hr
     exact ⟨c, g1, g2, k1.crel h.zin (fun e xs _ hx1 _ => absurd hx1 (hx' c (by simp [g1]) e xs)) g3⟩) hno' h2
   refine ⟨ω2, Z2, r2, k1.trans k2, ?_, ?_, q2⟩
   ·simp only [List.flatMap_cons]
    exact PendL.append (PendL.lift r1 k2 p1) (by rw [hf.length]; exact p2)
   ·have h3 := hall.1
    unfold TRel at h3 ⊢
    cases b with
    | true =>
     simp only [if_true] at h3 ⊢
     obtain ⟨ws, g1, g2⟩ := h3
     refine ⟨ws, g1, All2.of_get ?_ fun _ _ _ _ _ => trivial⟩
     have := p1.all.length
     rw [g1] at this
     exact this
    | false =>
     simp only [Bool.false_eq_true, if_false] at h3 ⊢
     obtain ⟨c, g1, g2, g3⟩ := h3
     have hl := p1.all.length
     rw [cells_of_isOne g2] at hl
     match c1, hl with
     | [d], _ => exact ⟨d, rfl, g2, trivial⟩
theorem moveSV_spec (h : Rel K β ω Z s a w) {r : Res} {o : Operand} {v v' : SV} {u : Value} {s' : St} (hv : SVRel (CRel K β Z s a w) u v) (hno : ∀ c ∈ v.cells, NoOwn c)
  (he : (moveSV r o v).exec s = some (v', s')) : ∃ ω' Z', Rel K β ω' Z' s' a w ∧ Calm K β a ω Z s w ω' Z' s' w ∧ Pend K β ω' Z' s' a w r u v' := by
 cases v with
 | one c =>
  simp only [moveSV] at he
  obtain ⟨c1, s1, h1, he⟩ := exec_bind' he
  obtain ⟨rfl, rfl⟩ := exec_ret he
  obtain ⟨ω1, Z1, r1, k1, p1⟩ := moveCell_spec h hv.2 (hno c (by simp [SV.cells])) h1
  exact ⟨ω1, Z1, r1, k1, Pend.of_list ⟨hv.1, trivial⟩ (by rw [flat_of_isOne hv.1]; exact ⟨p1, trivial⟩)⟩
 | agg cs =>
  simp only [moveSV] at he
  obtain ⟨c1, s1, h1, he⟩ := exec_bind' he
  obtain ⟨rfl, rfl⟩ := exec_ret he
  obtain ⟨ws, rfl, hall⟩ := hv
  obtain ⟨ω1, Z1, r1, k1, p1⟩ := moveCells_spec (r := r) (o := o) cs 0 ws.toList ω Z s _ _ h hall (fun c hc => hno c hc) h1
  exact ⟨ω1, Z1, r1, k1, Pend.of_list ⟨ws, rfl, All2.of_get p1.all.length fun _ _ _ _ _ => trivial⟩ p1⟩
 | tup xs =>
  simp only [moveSV] at he
  obtain ⟨c1, s1, h1, he⟩ := exec_bind' he
  obtain ⟨rfl, rfl⟩ := exec_ret he
  obtain ⟨vs, rfl, hall⟩ := hv
  obtain ⟨ω1, Z1, r1, k1, p1, q1⟩ := moveTup_spec (r := r) (o := o) xs 0 vs.toList ω Z s _ _ h hall (fun c hc => hno c hc) h1
  exact ⟨ω1, Z1, r1, k1, Pend.of_list ⟨vs, rfl, q1⟩ p1⟩
 | undef => simp [moveSV, Prog.exec] at he
theorem toD_spec (h : Rel K β ω Z s a w) {c : C} {d : D} {u : Value} {s' : St} (hcu : CRel K β Z s a w c u) (he : (toD c).exec s = some (d, s')) :
  ∃ ω' Z', Rel K β ω' Z' s' a w ∧ Calm K β a ω Z s w ω' Z' s' w ∧ DRel w Z' d u := by
 cases c with
 | d x =>
  obtain ⟨rfl, rfl⟩ := exec_ret he
  exact ⟨ω, Z, h, Calm.refl, hcu⟩
 | bor r j hv cv e k xs =>
  simp only [toD, Prog.exec] at he
  obtain ⟨_, s1, h1, he⟩ := exec_bind' he
  obtain ⟨⟨hhv, hcv⟩, rfl⟩ := exec_need h1
  obtain ⟨_, s2, h2, he⟩ := exec_bind' he
  obtain ⟨rfl, rfl⟩ := exec_ret he
  obtain ⟨ω', Z', t1, t2, e2, ys2, t3, t4⟩ := freezeAt_spec h h2
  have hal : (s1 r).at j ≠ .dead := by rcases t4 with t4 | t4 <;> (rw [t4]; simp)
  obtain ⟨ys, u0, b0, f7, f2, f3, f4, f5, f6, f8⟩ := bor_any h hcu hhv hcv hal
  exact ⟨ω', Z', t1, t2, f8 Z' (fun b hb => t2.z b hb) (t1.frozen t3 (by rw [t2.hdr]; exact f2) f3)⟩
 | _ => simp [toD, Prog.exec] at he
def DL (w : World) (Z : Nat → Prop) : List Value → List D → Prop := fun us ds => All2 (fun u d => DRel w Z d u) us ds
theorem toDs_spec : ∀ (cs : List C) (us : List Value) (ω : Nat → Option Holder) (Z : Nat → Prop) (s s' : St) (ds : List D), Rel K β ω Z s a w → All2 (fun u c => CRel K β Z s a w c u) us cs → (∀ c ∈ cs, NoOwn c) →
  (toDs cs).exec s = some (ds, s') → ∃ ω' Z', Rel K β ω' Z' s' a w ∧ Calm K β a ω Z s w ω' Z' s' w ∧ DL w Z' us ds := by
 intro cs
 induction cs with
 | nil =>
  intro us ω Z s s' ds h hall _ he
  obtain ⟨rfl, rfl⟩ := exec_ret he
  cases us with
  | nil => exact ⟨ω, Z, h, Calm.refl, trivial⟩
  | cons u us => exact hall.elim
 | cons c cs ih =>
  intro us ω Z s s' ds h hall hno he
  cases us with
  | nil => exact hall.elim
  | cons u us =>
   simp only [toDs] at he
   obtain ⟨c1, s1, h1, he⟩ := exec_bind' he
   obtain ⟨cs1, s2, h2, he⟩ := exec_bind' he
   obtain ⟨rfl, rfl⟩ := exec_ret he
   obtain ⟨ω1, Z1, r1, k1, p1⟩ := toD_spec h hall.1 h1
   have hno' : ∀ x ∈ cs, NoOwn x := fun x hx => hno x (List.mem_cons_of_mem _ hx)
   obtain ⟨ω2, Z2, r2, k2, p2⟩ := ih us ω1 Z1 s1 _ cs1 r1 (hall.2.mono_mem fun u c hc hr => k1.crel h.zin (fun e xs _ hx _ => absurd hx (hno' c hc e xs)) hr) hno' h2
   exact ⟨ω2, Z2, r2, k1.trans k2, DRel.mono (fun b hb => ⟨rfl, k2.z b hb⟩) _ _ p1, p2⟩
theorem elems_spec (h : Rel K β ω Z s a w) {e : Nat} {c : C} {xs : List (List D)} {u : Value} {s' : St} (hcu : CRel K β Z s a w c u) (he : (elems e c).exec s = some (xs, s')) :
  s' = s ∧ ((u = .slice none 0 0 ∧ xs = []) ∨ ∃ ad cap, u = .slice (some ad) xs.length cap ∧ (cap = 0 ∨ ad.spot = none) ∧ xs.length ≤ cap ∧ RowsRel w Z e xs ad.block ad.off) := by
 unfold elems at he
 split at he
 ·obtain ⟨rfl, rfl⟩ := exec_ret he
  exact ⟨rfl, .inl ⟨hcu, rfl⟩⟩
 ·rename_i e' ys
  obtain ⟨_, s1, h1, he2⟩ := exec_bind' he
  obtain ⟨⟨hee, hm⟩, hs1⟩ := exec_need h1
  obtain ⟨hx, hs2⟩ := exec_ret he2
  subst hs1; subst hx; subst hs2; subst hee
  obtain ⟨ad, cap, g1, g2, g3, g4⟩ := (DRel.sl_iff hm).1 hcu
  exact ⟨rfl, .inr ⟨ad, cap, g1, g2.imp id (·.1), g3, g4⟩⟩
 ·rename_i r j hv cv e' k ys
  simp only [Prog.exec] at he
  obtain ⟨_, s1, h1, he2⟩ := exec_bind' he
  obtain ⟨⟨hhv, hcv, hal, hee, hm⟩, hs1⟩ := exec_need h1
  obtain ⟨hx, hs2⟩ := exec_ret he2
  subst hs1; subst hx; subst hs2; subst hee
  have hal' : (s' r).at j ≠ .dead := by
   unfold alive at hal
   intro hd
   rw [hd] at hal
   cases hal
  obtain ⟨ad, cap, g1, g2, g3, g4⟩ := bor_rows' h hm hcu hhv hcv hal'
  exact ⟨rfl, .inr ⟨ad, cap, g1, .inr g2, g3, g4⟩⟩
 ·simp [Prog.exec] at he
end
end Go.Vs
namespace Go.Vs
section types
variable {P : Program} {w : World} {t : TypeId} {i : TI}
theorem tiOf_parts (h : tiOf P t = some i) : ∃ info d, P.info? t = some info ∧ P.underlying t = some d ∧ i.size = info.size ∧ i.bytes = info.bytes ∧ i.kind = tk d ∧ i.zero = info.zero.bind (zeroD i.kind.agg) := by
 unfold tiOf at h
 split at h
 ·rename_i info d h1 h2
  cases h
  exact ⟨info, d, h1, h2, rfl, rfl, rfl, rfl⟩
 ·cases h
theorem run_program {α : Type} (f : Program → Sem α) : (program >>= f).run P w = (f P).run P w := rfl
theorem run_typeInfo (h : tiOf P t = some i) : ∃ info, (typeInfo t).run P w = .ok info w ∧ info.size = i.size ∧ info.bytes = i.bytes ∧ i.zero = info.zero.bind (zeroD i.kind.agg) := by
 obtain ⟨info, d, h1, h2, h3, h4, h5, h6⟩ := tiOf_parts h
 refine ⟨info, ?_, h3.symm, h4.symm, h6⟩
 show (match P.info? t with | some i => (pure i : Sem TypeInfo) | none => stuck "no such type").run P w = _
 rw [h1]
 rfl
theorem run_sizeOf (h : tiOf P t = some i) : (sizeOf t).run P w = .ok i.size w := by
 obtain ⟨info, h1, h2, _⟩ := run_typeInfo (w := w) h
 simp [sizeOf, h1, h2]
theorem run_underlying' (h : tiOf P t = some i) : ∃ d, P.underlying t = some d ∧ tk d = i.kind ∧ (underlying t).run P w = .ok d w := by
 obtain ⟨info, d, h1, h2, h3, h4, h5, h6⟩ := tiOf_parts h
 refine ⟨d, h2, h5.symm, ?_⟩
 show (match P.underlying t with | some d => (pure d : Sem TypeDesc) | none => stuck "no such type").run P w = _
 rw [h2]
 rfl
theorem run_isAgg (h : tiOf P t = some i) : (isAgg t).run P w = .ok i.kind.agg w := by
 obtain ⟨d, _, h1, h2⟩ := run_underlying' (w := w) h
 simp only [isAgg, Sem.run_bind, h2, Result.andThen_ok, ← h1]
 cases d <;> rfl
theorem run_zeroValue' (h : tiOf P t = some i) {z : List D} (hz : i.zero = some z) : ∃ v, (zeroValue t).run P w = .ok v w ∧ reflectAll v.cells.toList = some z ∧ isAggV v = i.kind.agg := by
 obtain ⟨info, h1, h2, h3, h4⟩ := run_typeInfo (w := w) h
 rw [hz] at h4
 cases hv : info.zero with
 | none => rw [hv] at h4; cases h4
 | some v =>
  rw [hv] at h4
  simp only [Option.bind_some, zeroD] at h4
  split at h4
  ·rename_i ha
   exact ⟨v, by simp [zeroValue, h1, hv], h4.symm, ha⟩
  ·cases h4
theorem run_zeroValue (h : tiOf P t = some i) {z : List D} (hz : i.zero = some z) : ∃ v, (zeroValue t).run P w = .ok v w ∧ reflectAll v.cells.toList = some z := by
 obtain ⟨v, h1, h2, _⟩ := run_zeroValue' (w := w) h hz
 exact ⟨v, h1, h2⟩
theorem tk_slice {d : TypeDesc} {e : TypeId} (h : tk d = .slice e) : d = .slice e := by
 cases d <;> simp [tk] at h
 rw [h]
theorem tk_struct {d : TypeDesc} {fs : List (Nat × TypeId)} (h : tk d = .struct fs) : ∃ fields : Array Field, d = .struct fields ∧ fs = fields.toList.map fun f => (f.offset, f.type) := by
 cases d <;> simp [tk] at h
 exact ⟨_, rfl, h.symm⟩
theorem tk_array {d : TypeDesc} {n : Nat} {e : TypeId} (h : tk d = .array n e) : d = .array n e := by
 cases d <;> simp [tk] at h
 rw [h.1, h.2]
theorem tk_str {d : TypeDesc} (h : tk d = .str) : d = .string := by
 cases d <;> simp [tk] at h
 rfl
theorem tk_int {d : TypeDesc} {k : IntKind} (h : tk d = .int k) : d = .int k := by
 cases d <;> simp [tk] at h
 rw [h]
theorem tk_bool {d : TypeDesc} (h : tk d = .bool) : d = .bool := by
 cases d <;> simp [tk] at h
 rfl
end types
section
variable {K : Ctx} {β : Key → Option Nat} {ω : Nat → Option Holder} {Z : Nat → Prop} {s : St} {a : Act} {w : World}
theorem reflectAll_rel' : ∀ {vs : List Value} {ds : List D}, reflectAll vs = some ds → DL w Z vs ds
 | [], ds, h => by simp [reflectAll] at h; subst h; trivial
 | v :: vs, ds, h => by
  unfold reflectAll at h
  split at h
  ·rename_i d ds' h1 h2
   cases h
   exact ⟨(reflect_rel h1).2, reflectAll_rel' h2⟩
  ·cases h
theorem isOne_of_crel {c : C} {u : Value} (h : CRel K β Z s a w c u) (hc : c ≠ .dead) : isOne u = true := by
 cases c with
 | d x =>
  cases x <;> simp only [CRel, DRel] at h
  ·subst h; rfl
  ·subst h; rfl
  ·subst h; rfl
  ·subst h; rfl
  ·split at h
   ·obtain ⟨ad, cap, rfl, _⟩ := h; rfl
   ·obtain ⟨b, rfl, _⟩ := h; exact mpV_one ..
  ·rename_i k; cases k <;> simp only [NulRel] at h <;> (subst h; rfl)
 | own e xs =>
  simp only [CRel] at h
  split at h
  ·obtain ⟨ad, cap, rfl, _⟩ := h; rfl
  ·obtain ⟨b, rfl, _⟩ := h; exact mpV_one ..
 | bor r j hv cv e k xs =>
  simp only [CRel] at h
  split at h
  ·obtain ⟨b, rfl, _⟩ := h; exact mpV_one ..
  ·obtain ⟨ad, cap, rfl, _⟩ := h; rfl
 | ea r j hv e i off => obtain ⟨b, o, rfl, _⟩ := h; rfl
 | da xs => obtain ⟨b, o, rfl, _⟩ := h; rfl
 | ptr k off => obtain ⟨b, _, rfl⟩ := h; rfl
 | clo f caps => obtain ⟨vs, rfl, _⟩ := h; rfl
 | dead => exact absurd rfl hc
theorem notMap_own {e : Nat} {xs : List (List D)} {ad : Addr} {len cap : Nat} (h : CRel K β Z s a w (.own e xs) (.slice (some ad) len cap)) : isMap e = false := by
 by_cases he : isMap e = true
 ·obtain ⟨b, h1, _⟩ := (CRel.own_mp he).1 h
  exact (mpV_sl h1).elim
 ·simpa using he
theorem notMap_d {e : Nat} {xs : List (List D)} {ad : Addr} {len cap : Nat} (h : CRel K β Z s a w (.d (.sl e xs)) (.slice (some ad) len cap)) : isMap e = false := by
 by_cases he : isMap e = true
 ·obtain ⟨b, h1, _⟩ := (DRel.mp_iff he).1 h
  exact (mpV_sl h1).elim
 ·simpa using he
theorem slice1_spec {i : TI} {cs : List C} {off : Nat} {v : SV} {s' : St} (he : (slice1 i cs off).exec s = some (v, s')) :
  s' = s ∧ 0 < i.size ∧ off + i.size ≤ cs.length ∧ ((i.kind.agg = true ∧ v = .agg ((cs.drop off).take i.size)) ∨ (i.kind.agg = false ∧ ∃ c, cs[off]? = some c ∧ c ≠ .dead ∧ v = .one c)) := by
 simp only [slice1] at he
 obtain ⟨_, s1, h1, he2⟩ := exec_bind' he
 obtain ⟨⟨hpos, hle⟩, rfl⟩ := exec_need h1
 split at he2
 ·rename_i hk
  obtain ⟨rfl, rfl⟩ := exec_ret he2
  exact ⟨rfl, hpos, hle, .inl ⟨hk, rfl⟩⟩
 ·rename_i hk
  split at he2
  ·simp [Prog.exec] at he2
  ·rename_i c hnd hc
   obtain ⟨rfl, rfl⟩ := exec_ret he2
   exact ⟨rfl, hpos, hle, .inr ⟨by simpa using hk, c, hc, fun e => hnd (e ▸ rfl), rfl⟩⟩
  ·simp [Prog.exec] at he2
theorem cells_of_cell? {b o : Nat} {v : Value} (h : w.cell? ⟨b, o, none⟩ = some v) : ∃ ws el fz, w.heap[b]? = some (.cells ws el fz) ∧ ws[o]? = some v := by
 unfold World.cell? at h
 simp only at h
 split at h
 ·rename_i ws el fz hw
  exact ⟨ws, el, fz, hw, by simpa using h⟩
 ·cases h
theorem run_loadVar {P : Program} {t : TypeId} {i : TI} (ht : tiOf P t = some i) {b o off : Nat} {cs : List C} {us : List Value} (hus : All2 (fun u c => CRel K β Z s a w c u) us cs) (hno : ∀ c ∈ cs, NoOwn c)
  {v : SV} {s' : St} (he : (slice1 i cs off).exec s = some (v, s')) (hcell : ∀ j, j < us.length → w.cell? ⟨b, o + j, none⟩ = us[j]?) :
  ∃ u, (loadVar t ⟨b, o + off, none⟩).run P w = .ok u w ∧ SVRel (CRel K β Z s a w) u v ∧ (∀ c ∈ v.cells, NoOwn c) := by
 obtain ⟨rfl, hpos, hle, h⟩ := slice1_spec he
 have hl := hus.length
 have hlast := hcell (off + i.size - 1) (by omega)
 rw [List.getElem?_eq_getElem (by omega)] at hlast
 obtain ⟨ws, el, fz, hw, hws⟩ := cells_of_cell? hlast
 have hcs : ∀ j, j < us.length → ws[o + j]? = us[j]? := by
  intro j hj
  rw [← hcell j hj]
  simp [World.cell?, hw]
 rcases h with ⟨hk, rfl⟩ | ⟨hk, c, hc, hnd, rfl⟩
 ·simp only [loadVar, Sem.run_bind, run_isAgg ht, Result.andThen_ok, hk, if_true, run_sizeOf ht]
  have hlt : o + off + i.size ≤ ws.size := by
   have := (Array.getElem?_eq_some_iff.1 hws).1
   omega
  rw [run_loadCells hw hlt]
  refine ⟨.agg (ws.extract (o + off) (o + off + i.size)), by simp, ⟨_, rfl, ?_⟩, fun c hc => hno c (List.mem_of_mem_drop (List.mem_of_mem_take hc))⟩
  have : (ws.extract (o + off) (o + off + i.size)).toList = (us.drop off).take i.size := by
   apply List.ext_getElem?
   intro j
   simp only [Array.toList_extract, List.extract_eq_take_drop, List.getElem?_take, List.getElem?_drop]
   by_cases hj : j < i.size
   ·have := hcs (off + j) (by omega)
    rw [if_pos (by omega), if_pos hj, ← this]
    simp [Nat.add_assoc]
   ·rw [if_neg (by omega), if_neg hj]
  rw [this]
  exact (hus.drop off).take _
 ·obtain ⟨u, hu, hcu⟩ := hus.get hc
  have hlt : off < us.length := (List.getElem?_eq_some_iff.1 hu).1
  have hcc := hcell off hlt
  rw [hu] at hcc
  have hmem := List.mem_of_getElem? hc
  refine ⟨u, ?_, ⟨isOne_of_crel hcu hnd, hcu⟩, by simp only [SV.cells, List.mem_singleton]; rintro _ rfl; exact hno _ hmem⟩
  simp [loadVar, run_isAgg ht, hk, hcc]
theorem RowRel.us : ∀ {ds : List D} {b o : Nat}, RowRel w Z ds b o → ∃ us, DL w Z us ds ∧ ∀ j, j < us.length → w.cell? ⟨b, o + j, none⟩ = us[j]?
 | [], _, _, _ => ⟨[], trivial, by simp⟩
 | d :: ds, b, o, h => by
  obtain ⟨⟨v, h1, h2⟩, h3⟩ := h
  obtain ⟨us, h4, h5⟩ := RowRel.us h3
  refine ⟨v :: us, ⟨h2, h4⟩, fun j hj => ?_⟩
  cases j with
  | zero => simpa using h1
  | succ j =>
   have := h5 j (by simpa using hj)
   rw [show o + 1 + j = o + (j + 1) by omega] at this
   simpa using this
theorem DL.map : ∀ {us : List Value} {ds : List D}, DL w Z us ds → All2 (fun u c => CRel K β Z s a w c u) us (ds.map .d)
 | [], [], _ => trivial
 | _ :: _, _ :: _, h => ⟨h.1, DL.map h.2⟩
def Yield (K : Ctx) (s' : St) (a : Act) (dst : Nat) (r : Result Next) (v : SV) : Prop :=
 ∃ u w' β' ω' Z', r = .ok (.value u) w' ∧ Rel K β' ω' Z' s' a w' ∧ Pend K β' ω' Z' s' a w' (.tmp dst) u v
theorem Yield.same (h : Rel K β ω Z s a w) {dst : Nat} {r : Result Next} {u : Value} {v : SV} (hr : r = .ok (.value u) w) (hv : SVRel (CRel K β Z s a w) u v) (hno : ∀ c ∈ v.cells, NoOwn c) : Yield K s a dst r v :=
 ⟨u, w, β, ω, Z, hr, h, Pend.of_noOwn hv hno⟩
theorem Yield.d (h : Rel K β ω Z s a w) {dst : Nat} {r : Result Next} {u : Value} {d : D} (hr : r = .ok (.value u) w) (hv : DRel w Z d u) : Yield K s a dst r (.one (.d d)) :=
 Yield.same h hr ⟨isOne_of_crel (K := K) (β := β) (s := s) (a := a) (c := .d d) hv (by simp), hv⟩ (by simp [SV.cells, NoOwn])
theorem load_spec (h : Rel K β ω Z s a w) {t : TypeId} {i : TI} (ht : tiOf K.P t = some i) {c : C} {u : Value} {v : SV} {s' : St} (hcu : CRel K β Z s a w c u) (he : (loadP i c).exec s = some (v, s')) :
  s' = s ∧ ∃ x, (Instr.loadAt t u).run K.P w = .ok x w ∧ SVRel (CRel K β Z s a w) x v ∧ (∀ c ∈ v.cells, NoOwn c) := by
 unfold loadP at he
 split at he
 ·rename_i k off
  simp only [Prog.exec] at he
  split at he
  ·rename_i cs hbox
   obtain ⟨b, ws, el, lo, hi, g1, g2, g3, g4, g5⟩ := BoxRel.cell h hbox
   obtain ⟨b', f1, rfl⟩ := hcu
   rw [f1] at g1
   cases g1
   have hall : All2 (fun u c => CRel K β Z s a w c u) ws.toList (bcells (.box k) (s (.box k)) 0 cs) := by
    refine All2.of_get (by rw [g5.length, bcells_length]) fun j u c hu hc => ?_
    rw [bcells_get] at hc
    cases hc0 : cs[j]? with
    | none => rw [hc0] at hc; cases hc
    | some c0 =>
     rw [hc0] at hc
     simp only [Option.map_some, Nat.zero_add, Option.some.injEq] at hc
     subst hc
     obtain ⟨u', h1, h2⟩ := g5.get hc0
     rw [hu] at h1
     cases h1
     exact h.bcell (by rw [hbox]; exact hc0) (by rw [hdr_box f1 g3]; exact hu) h2
   have hno : ∀ c ∈ bcells (.box k) (s (.box k)) 0 cs, NoOwn c := by
    intro c hc
    obtain ⟨j, hj⟩ := List.getElem?_of_mem hc
    rw [bcells_get] at hj
    cases hc0 : cs[j]? with
    | none => rw [hc0] at hj; cases hj
    | some c0 => rw [hc0] at hj; simp only [Option.map_some, Option.some.injEq] at hj; subst hj; exact bcell_noOwn _ _ _ _
   obtain ⟨x, h1, h2, h3⟩ := run_loadVar (P := K.P) ht (b := b) (o := 0) hall hno he (fun j hj => by simp [World.cell?, g3])
   refine ⟨(slice1_spec he).1, x, ?_, h2, h3⟩
   simpa [Instr.loadAt, Instr.sureAddr] using h1
  ·simp [Prog.exec] at he
 ·rename_i r j hv e n off
  simp only [Prog.exec] at he
  obtain ⟨_, s1, h1, he2⟩ := exec_bind' he
  obtain ⟨hhv, hs1⟩ := exec_need h1
  subst hs1
  obtain ⟨b, o, rfl, _, g⟩ := hcu
  have key : ∀ (e0 : Nat) (ys : List (List D)), ((s1 r).at j = .own e0 ys ∨ (s1 r).at j = .d (.sl e0 ys)) → (match ys[n]? with | some ds => slice1 i (ds.map .d) off | none => Prog.fail).exec s1 = some (v, s') →
    s' = s1 ∧ ∃ x, (Instr.loadAt t (.pointer (some ⟨b, o, none⟩))).run K.P w = .ok x w ∧ SVRel (CRel K β Z s1 a w) x v ∧ (∀ c ∈ v.cells, NoOwn c) := by
   intro e0 ys hat he3
   split at he3
   ·rename_i ds hds
    have hal : (s1 r).at j ≠ .dead := by rcases hat with hat | hat <;> (rw [hat]; simp)
    obtain ⟨ad, len, cap, f1, f2, f3, f4, ys', f5⟩ := g hhv hal
    have hee : e0 = e ∧ ys = ys' := by
     rcases hat with hat | hat <;> rw [hat] at f5 <;> rcases f5 with f5 | f5 <;> cases f5 <;> exact ⟨rfl, rfl⟩
    obtain ⟨rfl, rfl⟩ := hee
    have hrows : RowsRel w Z e0 ys ad.block ad.off := by
     rcases hat with hat | hat
     ·obtain ⟨u2, e1, hcu2⟩ := h.cell (at_cells hat (by simp))
      rw [f1] at e1; cases e1
      obtain ⟨ad2, cap2, e2, _, _, e3⟩ := (CRel.own_sl (notMap_own hcu2)).1 hcu2
      cases e2; exact e3
     ·obtain ⟨u2, e1, hcu2⟩ := h.cell (at_cells hat (by simp))
      rw [f1] at e1; cases e1
      obtain ⟨ad2, cap2, e2, _, _, e3⟩ := (DRel.sl_iff (notMap_d hcu2)).1 hcu2
      cases e2; exact e3
    obtain ⟨_, hrow⟩ := hrows.get hds
    obtain ⟨us, hus, hcell⟩ := hrow.us
    obtain ⟨x, h2, h3, h4⟩ := run_loadVar (P := K.P) ht (b := ad.block) (o := ad.off + n * e0) hus.map (by simp [NoOwn]) he3 hcell
    refine ⟨(slice1_spec he3).1, x, ?_, h3, h4⟩
    subst f3; subst f4
    simpa [Instr.loadAt, Instr.sureAddr] using h2
   ·simp [Prog.exec] at he3
  split at he2
  ·rename_i e0 ys hat; exact key e0 ys (.inl hat) he2
  ·rename_i e0 ys hat; exact key e0 ys (.inr hat) he2
  ·simp [Prog.exec] at he2
 ·rename_i ds
  obtain ⟨b, o, rfl, hz, hrow⟩ := hcu
  obtain ⟨us, hus, hcell⟩ := hrow.us
  obtain ⟨x, h2, h3, h4⟩ := run_loadVar (P := K.P) ht (b := b) (o := o) hus.map (by simp [NoOwn]) he hcell
  refine ⟨(slice1_spec he).1, x, ?_, h3, h4⟩
  simpa [Instr.loadAt, Instr.sureAddr] using h2
 ·simp [Prog.exec] at he
end
end Go.Vs
namespace Go.Vs
theorem All2.splice {α β : Type} {R : α → β → Prop} {as us : List α} {bs cs : List β} {off : Nat} (h : All2 R as bs) (k : All2 R us cs) : All2 R (Vs.splice as off us) (Vs.splice bs off cs) := by
 unfold Vs.splice
 rw [k.length]
 exact ((h.take off).append k).append (h.drop _)
theorem splice_length {α : Type} {l m : List α} {off : Nat} (h : off + m.length ≤ l.length) : (splice l off m).length = l.length := by
 simp only [splice, List.length_append, List.length_take, List.length_drop]
 omega
theorem splice_get {α : Type} {l m : List α} {off : Nat} (h : off + m.length ≤ l.length) (j : Nat) : (splice l off m)[j]? = if off ≤ j ∧ j < off + m.length then m[j - off]? else l[j]? := by
 simp only [splice, List.getElem?_append, List.length_append, List.length_take, List.getElem?_take, List.getElem?_drop]
 rw [Nat.min_eq_left (by omega)]
 by_cases h1 : j < off
 ·rw [if_pos (by omega), if_pos h1, if_pos h1, if_neg (by omega)]
 ·by_cases h2 : j < off + m.length
  ·rw [if_pos h2, if_neg h1, if_pos (by omega)]
  ·rw [if_neg h2, if_neg (by omega)]
   congr 1
   omega
section
variable {K : Ctx} {β : Key → Option Nat} {ω : Nat → Option Holder} {Z : Nat → Prop} {s : St} {a : Act} {w : World}
theorem asCells_rel {R : C → Value → Prop} {u : Value} {v : SV} {cs : List C} (hv : SVRel R u v) (hc : v.asCells = some cs) : v.cells = cs ∧ All2 (fun u c => R c u) u.cells.toList cs := by
 cases v with
 | one c =>
  simp only [SV.asCells, Option.some.injEq] at hc
  subst hc
  exact ⟨rfl, by rw [cells_of_isOne hv.1]; exact ⟨hv.2, trivial⟩⟩
 | agg ds =>
  simp only [SV.asCells, Option.some.injEq] at hc
  subst hc
  obtain ⟨ws, rfl, h⟩ := hv
  exact ⟨rfl, h⟩
 | tup x => simp [SV.asCells] at hc
 | undef => simp [SV.asCells] at hc
theorem toDs_alive : ∀ {cs : List C} {ds : List D} {s s' : St}, (toDs cs).exec s = some (ds, s') → ∀ c ∈ cs, c ≠ .dead
 | [], _, _, _, _, _, h => by simp at h
 | c :: cs, ds, s, s', he, x, hx => by
  simp only [toDs] at he
  obtain ⟨c1, s1, h1, he⟩ := exec_bind' he
  obtain ⟨cs1, s2, h2, he⟩ := exec_bind' he
  rcases List.mem_cons.1 hx with rfl | hx
  ·rintro rfl; simp [toD, Prog.exec] at h1
  ·exact toDs_alive h2 x hx
theorem run_storeVar {P : Program} {t : TypeId} {i : TI} (ht : tiOf P t = some i) {b o : Nat} {u : Value} (hsz : u.cells.size = i.size) {w' : World} (hst : (storeCells ⟨b, o, none⟩ u.cells.toList).run P w = .ok () w') :
  (storeVar t ⟨b, o, none⟩ u).run P w = .ok () w' := by
 simp [storeVar, run_sizeOf ht, hsz, hst]
theorem store_spec (h : Rel K β ω Z s a w) {t : TypeId} {i : TI} (ht : tiOf K.P t = some i) {take : Res → Bool} {c : C} {ua u : Value} {v : SV} {y : Unit} {s' : St} (hca : CRel K β Z s a w c ua) (hv : SVRel (CRel K β Z s a w) u v) (hno : ∀ c ∈ v.cells, NoOwn c)
  (he : (storeP take i c v).exec s = some (y, s')) : ∃ w' β' ω' Z', (Instr.storeAt t ua u).run K.P w = .ok () w' ∧ Rel K β' ω' Z' s' a w' := by
 unfold storeP at he
 split at he
 ·rename_i k off cs hcs
  obtain ⟨hcc, hall⟩ := asCells_rel hv hcs
  obtain ⟨_, s1, h1, he2⟩ := exec_bind' he
  obtain ⟨hlen, hs1⟩ := exec_need h1
  subst hs1
  clear he
  obtain ⟨cs', s2, h2, he3⟩ := exec_bind' he2
  have hal := stashes_alive h2
  obtain ⟨ω1, Z1, r1, k1, p1⟩ := stashes_spec (mk := fun n => (.box k, off + n)) (take := take) cs 0 _ ω Z s1 s2 cs' h hall (fun c hc => hno c (by rw [hcc]; exact hc)) h2
  simp only [Prog.exec] at he3
  split at he3
  ·rename_i old hbox
   obtain ⟨_, s3, h3, he4⟩ := exec_bind' he3
   obtain ⟨hle, hs3⟩ := exec_need h3
   subst hs3
   simp only [putR, Prog.exec, Option.some.injEq, Prod.mk.injEq] at he4
   obtain ⟨_, rfl⟩ := he4
   obtain ⟨b, ws, el, lo, hi, g1, g2, g3, g4, g5⟩ := BoxRel.cell r1 hbox
   obtain ⟨b', f1, rfl⟩ := hca
   rw [f1] at g1
   cases g1
   have hul : u.cells.toList.length = i.size := by rw [hall.length, hlen]
   have hul2 : u.cells.size = i.size := by simpa using hul
   have hwl : ws.size = old.length := by simpa using g5.length
   obtain ⟨w', ws', e1, e2, e3⟩ := run_storeCells (P := K.P) (o := off) u.cells.toList 0 w ws g3 g4 (by omega) (fun x hx => by
    obtain ⟨j, hj⟩ := List.getElem?_of_mem hx
    have hjl : j < cs.length := by rw [← hall.length]; exact (List.getElem?_eq_some_iff.1 hj).1
    have hcj := List.getElem?_eq_getElem hjl
    obtain ⟨u2, q1, q2⟩ := hall.get hcj
    rw [hj] at q1
    cases q1
    exact isOne_of_crel q2 (hal _ (List.getElem_mem hjl)))
   have hws' : ws'.toList = splice ws.toList off u.cells.toList := by simpa using e3
   have hcl : cs'.length = i.size := by rw [← p1.all.length, hul]
   have hall' : All2 (fun u c => CRel K β Z1 s3 a w c u) ws'.toList (splice old off cs') := by
    rw [hws']; exact g5.splice p1.all
   obtain ⟨q1, _⟩ := r1.setBox (k := k) (cs := splice old off cs') (w' := w') g2 (.inr f1) e2.os e2.tape e2.output e2.size e2.other e2.here (fun o ho => g4 o (by rw [← e2.len]; exact ho)) hall' (by
    intro j e xs u1 b1 hj hu hb1
    rw [hws', splice_get (by simp; omega)] at hu
    rw [splice_get (by omega)] at hj
    rw [hcl] at hj
    rw [hul] at hu
    split at hj
    ·rename_i hr
     rw [if_pos hr] at hu
     have := (p1.get hj hu).2 e xs b1 rfl hb1
     simp only [Nat.zero_add] at this
     rw [show off + (j - off) = j by omega] at this
     exact ⟨this.1, this.2.1⟩
    ·rename_i hr
     rw [if_neg hr] at hu
     exact r1.own (.box k) j e xs u1 b1 rfl (by rw [hbox]; exact hj) (by rw [hdr_box f1 g3]; exact hu) hb1)
   refine ⟨w', _, ω1, Z1, ?_, q1⟩
   simp only [Instr.storeAt, Instr.sureAddr, Sem.run_bind, Sem.run_pure, Result.andThen_ok]
   exact run_storeVar ht (by simpa using hul) e1
  ·simp [Prog.exec] at he3
 ·rename_i r j hv0 e n off cs hcs
  obtain ⟨hcc, hall⟩ := asCells_rel hv hcs
  obtain ⟨_, s1, h1, he2⟩ := exec_bind' he
  obtain ⟨hlen, hs1⟩ := exec_need h1
  subst hs1
  clear he
  obtain ⟨ds, s2, h2, he3⟩ := exec_bind' he2
  have hal := toDs_alive h2
  obtain ⟨ω1, Z1, r1, k1, p1⟩ := toDs_spec cs _ ω Z s1 s2 ds h hall (fun c hc => hno c (by rw [hcc]; exact hc)) h2
  have hca1 := k1.crel h.zin (c := .ea r j hv0 e n off) (by simp) hca
  simp only [Prog.exec] at he3
  obtain ⟨_, s3, h3, he4⟩ := exec_bind' he3
  obtain ⟨⟨hhv, hra⟩, hs3⟩ := exec_need h3
  subst hs3
  clear he3
  split at he4
  ·rename_i e0 ys hat
   split at he4
   ·rename_i row hrow
    obtain ⟨_, s4, h4, he5⟩ := exec_bind' he4
    obtain ⟨hle, hs4⟩ := exec_need h4
    subst hs4
    simp only [putR, Prog.exec, Option.some.injEq, Prod.mk.injEq] at he5
    obtain ⟨_, rfl⟩ := he5
    obtain ⟨b, o, rfl, _, g⟩ := hca1
    obtain ⟨ad, len, cap, f1, f2, f3, f4, ys', f5⟩ := g hhv (alive_of_own hat)
    have hee : e0 = e ∧ ys = ys' := by
     rw [hat] at f5; rcases f5 with f5 | f5 <;> cases f5; exact ⟨rfl, rfl⟩
    obtain ⟨rfl, rfl⟩ := hee
    have hm : isMap e0 = false := by
     obtain ⟨u2, e1, hcu2⟩ := r1.cell (at_cells hat (by simp))
     rw [f1] at e1; cases e1
     exact notMap_own hcu2
    obtain ⟨ad2, cap2, q1, q2, q3, q4⟩ := r1.ownRow hm hat
    rw [f1] at q1
    cases q1
    obtain ⟨hω0, ws, el, lo, hi, g3, g4, g5⟩ := r1.own r j e0 ys _ _ hra (at_cells hat (by simp)) f1 rfl
    obtain ⟨hrl, hrr⟩ := q4.get hrow
    have hnl : n < ys.length := (List.getElem?_eq_some_iff.1 hrow).1
    have hul : u.cells.toList.length = i.size := by rw [hall.length, hlen]
    have hul2 : u.cells.size = i.size := by simpa using hul
    have hdl : ds.length = i.size := by rw [← p1.length, hul]
    have hbound : ad.off + n * e0 + e0 ≤ ws.size := by
     have : n * e0 + e0 ≤ cap * e0 := by rw [← Nat.succ_mul]; exact Nat.mul_le_mul_right _ (by omega)
     omega
    subst f3; subst f4
    obtain ⟨w', ws', e1, e2, e3⟩ := run_storeCells (P := K.P) (o := ad.off + n * e0 + off) u.cells.toList 0 w ws g3 g5 (by omega) (fun x hx => by
     obtain ⟨j, hj⟩ := List.getElem?_of_mem hx
     have hjl : j < cs.length := by rw [← hall.length]; exact (List.getElem?_eq_some_iff.1 hj).1
     have hcj := List.getElem?_eq_getElem hjl
     obtain ⟨u2, q1, q2⟩ := hall.get hcj
     rw [hj] at q1
     cases q1
     exact isOne_of_crel q2 (hal _ (List.getElem_mem hjl)))
    have hws' : ws'.toList = splice ws.toList (ad.off + n * e0 + off) u.cells.toList := by simpa using e3
    have hnz := (r1.ωok _ _ hω0).1
    have hZ : ∀ b, Z1 b → w'.heap[b]? = w.heap[b]? ∧ Z1 b := fun b hb => ⟨e2.other b (fun e => hnz (e ▸ hb)), hb⟩
    have hcell : ∀ x, w'.cell? ⟨ad.block, x, none⟩ = if ad.off + n * e0 + off ≤ x ∧ x < ad.off + n * e0 + off + i.size then (u.cells.toList)[x - (ad.off + n * e0 + off)]? else w.cell? ⟨ad.block, x, none⟩ := by
     intro x
     have : w'.cell? ⟨ad.block, x, none⟩ = ws'.toList[x]? := by simp [World.cell?, e2.here]
     rw [this, hws', splice_get (by simp; omega), hul]
     split
     ·rfl
     ·simp [World.cell?, g3]
    have hrows : RowsRel w' Z1 e0 (ys.set n (splice row off ds)) ad.block ad.off := by
     refine RowsRel.of_get fun m x hm => ?_
     rw [List.getElem?_set] at hm
     by_cases hmn : n = m
     ·subst hmn
      simp only [if_true, hnl] at hm
      cases hm
      refine ⟨by rw [splice_length (by omega)]; exact hrl, RowRel.of_get fun jj d hd => ?_⟩
      rw [splice_get (by omega)] at hd
      rw [hcell]
      split at hd
      ·rename_i hr
       rw [if_pos (by omega)]
       obtain ⟨u2, q1, q2⟩ := p1.get hd
       exact ⟨u2, by rw [show ad.off + n * e0 + jj - (ad.off + n * e0 + off) = jj - off by omega]; exact q1, DRel.mono hZ _ _ q2⟩
      ·rename_i hr
       rw [if_neg (by omega)]
       obtain ⟨u2, q1, q2⟩ := hrr.get hd
       exact ⟨u2, q1, DRel.mono hZ _ _ q2⟩
     ·rw [if_neg hmn] at hm
      obtain ⟨q1, q2⟩ := q4.get hm
      refine ⟨q1, RowRel.of_get fun jj d hd => ?_⟩
      obtain ⟨u2, q3, q4⟩ := q2.get hd
      have hjl : jj < e0 := by rw [← q1]; exact (List.getElem?_eq_some_iff.1 hd).1
      refine ⟨u2, ?_, DRel.mono hZ _ _ q4⟩
      rw [hcell, if_neg, q3]
      rintro ⟨h5, h6⟩
      rcases Nat.lt_or_gt_of_ne hmn with hlt | hlt
      ·have : n * e0 + e0 ≤ m * e0 := by rw [← Nat.succ_mul]; exact Nat.mul_le_mul_right _ hlt
       omega
      ·have : m * e0 + e0 ≤ n * e0 := by rw [← Nat.succ_mul]; exact Nat.mul_le_mul_right _ hlt
       omega
    have := r1.setRow hm hat hra f1 e2 g3 (by simp) hrows
    refine ⟨w', β, ω1, Z1, ?_, this⟩
    simp only [Instr.storeAt, Instr.sureAddr, Sem.run_bind, Sem.run_pure, Result.andThen_ok]
    exact run_storeVar ht (by simpa using hul) e1
   ·simp [Prog.exec] at he4
  ·simp [Prog.exec] at he4
 ·simp [Prog.exec] at he
end
end Go.Vs
namespace Go.Vs
def scV : D → Value
 | .int k n => .int k n
 | .bool b => .bool b
 | .str s => .string ⟨s.toArray⟩
 | _ => .nilFunc
def aggV (ds : List D) : Value := .agg (ds.map scV).toArray
theorem fit_DL {w : World} {Z : Nat → Prop} : ∀ {sh : List Sc} {ds : List D}, fitSc sh ds = true → DL w Z (ds.map scV) ds
 | [], [], _ => trivial
 | k :: sh, d :: ds, h => by
  cases k <;> cases d <;> simp only [fitSc, Bool.and_eq_true, decide_eq_true_eq, Bool.false_eq_true] at h
  ·exact ⟨rfl, fit_DL h.2⟩
  ·exact ⟨rfl, fit_DL h⟩
  ·exact ⟨rfl, fit_DL h⟩
 | [], _ :: _, h => by cases h
 | k :: _, [], h => by cases k <;> cases h
theorem fit_uniq {w : World} {Z : Nat → Prop} : ∀ {sh : List Sc} {ds : List D} {us : List Value}, fitSc sh ds = true → DL w Z us ds → us = ds.map scV
 | [], [], [], _, _ => rfl
 | [], [], _ :: _, _, h => h.elim
 | k :: sh, d :: ds, u :: us, h, hu => by
  cases k <;> cases d <;> simp only [fitSc, Bool.and_eq_true, decide_eq_true_eq, Bool.false_eq_true] at h
  ·have := fit_uniq h.2 hu.2; have e : u = _ := hu.1; rw [this, e]; rfl
  ·have := fit_uniq h hu.2; have e : u = _ := hu.1; rw [this, e]; rfl
  ·have := fit_uniq h hu.2; have e : u = _ := hu.1; rw [this, e]; rfl
 | _ :: _, _ :: _, [], _, h => h.elim
 | [], _ :: _, _, h, _ => by cases h
 | k :: _, [], _, h, _ => by cases k <;> cases h
structure EqOk (P : Program) (t : TypeId) (sh : List Sc) : Prop where
 eq : ∀ (w : World) (Z : Nat → Prop) (xs ys : Array Value) (ds es : List D) (x y : Operand), DL w Z xs.toList ds → DL w Z ys.toList es → fitSc sh ds = true → fitSc sh es = true → ∀ op, op = .eql ∨ op = .neq →
  (do eqGuard op t x y (.agg xs) (.agg ys); binOp op t (.agg xs) (.agg ys)).run P w = .ok (.bool (if op = .eql then eqDs ds es else !eqDs ds es)) w
 equal : ∀ (w : World) (ds es : List D), fitSc sh ds = true → fitSc sh es = true → (Op.equal t (aggV ds) (aggV es)).run P w = .ok (eqDs ds es) w
 check : ∀ (w : World) (ds : List D) (em : Bool), fitSc sh ds = true → (Instr.checkKey em 10000 t (aggV ds)).run P w = .ok () w
 struct : ∃ fs, P.underlying t = some (.struct fs)
structure Tabs (P : Program) (cfg : Cfg) : Prop where
 T : ∀ t i, cfg.ti t = some i → tiOf P t = some i
 E : ∀ t sh, lk t cfg.eqs = some sh → EqOk P t sh
section
variable {K : Ctx} {β : Key → Option Nat} {ω : Nat → Option Holder} {Z : Nat → Prop} {s : St} {a : Act} {w : World} {cfg : Cfg} (hT : Tabs K.P cfg)
include hT
theorem field_spec {t : TypeId} {c c' : C} {f : Nat} {u : Value} {s' : St} (hcu : CRel K β Z s a w c u) (he : (fieldP cfg t c f).exec s = some (c', s')) :
  s' = s ∧ ∃ u', (Instr.fieldAt t u f).run K.P w = .ok u' w ∧ CRel K β Z s a w c' u' ∧ NoOwn c' ∧ isOne u' = true := by
 unfold fieldP at he
 split at he
 ·rename_i size bytes fs zero hti
  split at he
  ·rename_i o ft hfs
   split at he
   ·rename_i i hft
    obtain ⟨_, s1, h1, he2⟩ := exec_bind' he
    obtain ⟨hne, hs1⟩ := exec_need h1
    subst hs1
    clear he
    obtain ⟨d, hd, hk, hun⟩ := run_underlying' (w := w) (hT.T _ _ hti)
    obtain ⟨fields, rfl, rfl⟩ := tk_struct hk
    rw [List.getElem?_map] at hfs
    cases hf : fields.toList[f]? with
    | none => rw [hf] at hfs; cases hfs
    | some fd =>
     rw [hf] at hfs
     simp only [Option.map_some, Option.some.injEq, Prod.mk.injEq] at hfs
     obtain ⟨rfl, rfl⟩ := hfs
     have hf' : fields[f]? = some fd := by simpa using hf
     have hrun : ∀ b o, (Instr.fieldAt t (.pointer (some ⟨b, o, none⟩)) f).run K.P w = .ok (.pointer (some ⟨b, o + fd.offset, none⟩)) w := by
      intro b o
      simp only [Instr.fieldAt, Sem.run_bind, hun, Result.andThen_ok, hf', Instr.sureAddr, Sem.run_pure, fieldPlace, run_sizeOf (hT.T _ _ hft), hne, if_false, add_mk]
     cases c with
     | ptr k off =>
      obtain ⟨rfl, rfl⟩ := exec_ret he2
      obtain ⟨b, g1, rfl⟩ := hcu
      exact ⟨rfl, _, hrun _ _, ⟨b, g1, rfl⟩, by simp [NoOwn], rfl⟩
     | ea r j hv e n off =>
      obtain ⟨rfl, rfl⟩ := exec_ret he2
      obtain ⟨b, o, rfl, g1, g2⟩ := hcu
      refine ⟨rfl, _, hrun _ _, ⟨b, o + fd.offset, rfl, g1, fun h1 h2 => ?_⟩, by simp [NoOwn], rfl⟩
      obtain ⟨ad, len, cap, f1, f2, f3, f4, f5⟩ := g2 h1 h2
      exact ⟨ad, len, cap, f1, f2, f3, by omega, f5⟩
     | da ds =>
      obtain ⟨_, s2, h2, he3⟩ := exec_bind' he2
      obtain ⟨hle, hs2⟩ := exec_need h2
      subst hs2
      obtain ⟨rfl, rfl⟩ := exec_ret he3
      obtain ⟨b, o, rfl, g1, g2⟩ := hcu
      exact ⟨rfl, _, hrun _ _, ⟨b, o + fd.offset, rfl, g1, g2.drop _⟩, by simp [NoOwn], rfl⟩
     | _ => simp [Prog.exec] at he2
   ·simp [Prog.exec] at he
  ·simp [Prog.exec] at he
 ·simp [Prog.exec] at he
theorem indexAddr_spec {t : TypeId} {c c' : C} {k : IntKind} {n : Int} {u : Value} {s' : St} (hcu : CRel K β Z s a w c u) (he : (indexAddrP cfg t c n).exec s = some (c', s')) :
  s' = s ∧ ∃ u', (Instr.indexAt t u (.int k n)).run K.P w = .ok u' w ∧ CRel K β Z s a w c' u' ∧ NoOwn c' ∧ isOne u' = true := by
 unfold indexAddrP at he
 split at he
 ·rename_i size bytes et zero hti
  obtain ⟨d, hd, hk, hun⟩ := run_underlying' (w := w) (hT.T _ _ hti)
  have hd2 := tk_slice hk
  subst hd2
  split at he
  ·rename_i i hft
   have hrun : ∀ (ad : Addr) (len cap : Nat), ad.spot = none → 0 ≤ n ∧ n < len → (Instr.indexAt t (.slice (some ad) len cap) (.int k n)).run K.P w = .ok (.pointer (some ⟨ad.block, ad.off + n.toNat * i.size, none⟩)) w := by
    intro ad len cap hsp hn
    simp [Instr.indexAt, asIntOf, hun, run_sizeOf (hT.T _ _ hft), hn, add_of hsp]
   split at he
   ·rename_i r j hv cv e k' xs
    obtain ⟨_, s1, h1, he2⟩ := exec_bind' he
    obtain ⟨hn, hs1⟩ := exec_need h1
    subst hs1
    obtain ⟨_, s2, h2, he3⟩ := exec_bind' he2
    obtain ⟨⟨hsz, hm⟩, hs2⟩ := exec_need h2
    subst hs2
    obtain ⟨rfl, rfl⟩ := exec_ret he3
    obtain ⟨ad', cap', rfl, g2, g3, g4, g5, g6⟩ := (CRel.bor_sl hm).1 hcu
    refine ⟨rfl, _, hrun ad' _ cap' g2 hn, ⟨_, _, rfl, g4, fun q1 q2 => ?_⟩, by simp [NoOwn], rfl⟩
    obtain ⟨ad, len, cap, f1, f2, f3, f4, f4b, f5, f6, f7, f8⟩ := g6 q1 q2
    have hoff : ad'.off = ad.off + k' * e := f4.resolve_right (by omega)
    obtain ⟨ys, q3, _⟩ := f8
    exact ⟨ad, len, cap, f1, f2, f3, by rw [hoff, hsz, Nat.add_mul]; omega, ys, q3⟩
   ·rename_i e xs
    obtain ⟨_, s1, h1, he2⟩ := exec_bind' he
    obtain ⟨hn, hs1⟩ := exec_need h1
    subst hs1
    obtain ⟨_, s2, h2, he3⟩ := exec_bind' he2
    obtain ⟨⟨hsz, hm⟩, hs2⟩ := exec_need h2
    subst hs2
    split at he3
    ·rename_i ds hds
     obtain ⟨rfl, rfl⟩ := exec_ret he3
     obtain ⟨ad, cap, rfl, g24, g3, g5⟩ := (DRel.sl_iff hm).1 hcu
     obtain ⟨_, hrow⟩ := g5.get hds
     have hlt := (List.getElem?_eq_some_iff.1 hds).1
     obtain ⟨g2, g4⟩ := g24.resolve_left (by omega)
     exact ⟨rfl, _, hrun ad _ cap g2 hn, ⟨_, _, rfl, g4, by rw [hsz]; exact hrow⟩, by simp [NoOwn], rfl⟩
    ·simp [Prog.exec] at he3
   ·simp [Prog.exec] at he
  ·simp [Prog.exec] at he
 ·rename_i size bytes len et zero hti
  obtain ⟨d, hd, hk, hun⟩ := run_underlying' (w := w) (hT.T _ _ hti)
  have hd2 := tk_array hk
  subst hd2
  split at he
  ·rename_i i hft
   split at he
   ·rename_i key off
    obtain ⟨_, s1, h1, he2⟩ := exec_bind' he
    obtain ⟨hn, hs1⟩ := exec_need h1
    subst hs1
    obtain ⟨rfl, rfl⟩ := exec_ret he2
    obtain ⟨b, g1, rfl⟩ := hcu
    refine ⟨rfl, _, ?_, ⟨b, g1, rfl⟩, by simp [NoOwn], rfl⟩
    simp [Instr.indexAt, asIntOf, hun, run_sizeOf (hT.T _ _ hft), hn, Instr.sureAddr, add_mk]
   ·simp [Prog.exec] at he
  ·simp [Prog.exec] at he
 ·simp [Prog.exec] at he
end
end Go.Vs
/- Arithmetic, strings, parts of slices, conversions. -/
namespace Go.Vs

theorem str_toList (l : List UInt8) : (ByteArray.mk l.toArray).toList = l := by rw [Lib.toList_data]
theorem str_size (l : List UInt8) : (ByteArray.mk l.toArray).size = l.length := by simp [ByteArray.size]
theorem str_append (l m : List UInt8) : ByteArray.mk l.toArray ++ ByteArray.mk m.toArray = ByteArray.mk (l ++ m).toArray := by
  apply ByteArray.ext
  simp [ByteArray.data_append]
theorem str_get (l : List UInt8) (n : Nat) : (ByteArray.mk l.toArray)[n]? = l[n]? := by
  by_cases h : n < l.length
  · rw [List.getElem?_eq_getElem h, getElem?_pos (ByteArray.mk l.toArray) n (by simpa [ByteArray.size] using h)]
    rfl
  · rw [List.getElem?_eq_none (by omega), getElem?_neg (ByteArray.mk l.toArray) n (by simpa [ByteArray.size] using h)]
theorem str_extract (l : List UInt8) (a b : Nat) : (ByteArray.mk l.toArray).extract a b = ByteArray.mk ((l.take b).drop a).toArray := by
  apply ByteArray.ext
  simp [ByteArray.data_extract]
  rw [List.drop_take]

section
variable {K : Ctx} {β : Key → Option Nat} {ω : Nat → Option Holder} {Z : Nat → Prop} {s : St} {a : Act} {w : World} {cfg : Cfg} (hT : Tabs K.P cfg)

theorem binInt_spec {op : BinOp} {k : IntKind} {x y : Int} {v : SV} {s' : St} {t : TypeId} (hop : op ≠ .shl ∧ op ≠ .shr) (he : (binInt op k x y).exec s = some (v, s')) :
    s' = s ∧ ∃ d u, v = .one (.d d) ∧ (binOp op t (.int k x) (.int k y)).run K.P w = .ok u w ∧ DRel w Z d u := by
  cases op <;> simp only [binInt, dint, dbool] at he <;> first
    | exact absurd rfl hop.1
    | exact absurd rfl hop.2
    | (obtain ⟨rfl, rfl⟩ := exec_ret he; exact ⟨rfl, _, _, rfl, by simp [binOp, Op.intArith, Op.intBits, Op.intCmp], rfl⟩)
    | (obtain ⟨_, s1, h1, he2⟩ := exec_bind' he
       obtain ⟨hn, hs1⟩ := exec_need h1
       subst hs1
       obtain ⟨rfl, rfl⟩ := exec_ret he2
       exact ⟨rfl, _, _, rfl, by simp [binOp, Op.intDiv, hn], rfl⟩)
    | (simp [Prog.exec] at he)

theorem binStr_spec {op : BinOp} {x y : List UInt8} {v : SV} {s' : St} {t : TypeId} (he : (binStr op x y).exec s = some (v, s')) :
    s' = s ∧ ∃ d u, v = .one (.d d) ∧ (binOp op t (.string ⟨x.toArray⟩) (.string ⟨y.toArray⟩)).run K.P w = .ok u w ∧ DRel w Z d u := by
  have hbeq : (x == y) = decide (x = y) := by
    by_cases h : x = y <;> simp [h]
  cases op <;> simp only [binStr, dbool] at he <;> first
    | (obtain ⟨rfl, rfl⟩ := exec_ret he
       refine ⟨rfl, _, _, rfl, ?_, rfl⟩
       simp only [binOp, Op.stringOp, str_toList, hbeq, Sem.run_pure])
    | (obtain ⟨_, s1, h1, he2⟩ := exec_bind' he
       obtain ⟨hn, hs1⟩ := exec_need h1
       subst hs1
       obtain ⟨rfl, rfl⟩ := exec_ret he2
       refine ⟨rfl, _, _, rfl, ?_, rfl⟩
       simp only [binOp, Op.stringOp, str_size, str_append]
       rw [if_neg]
       · simp
       · simp only [IntKind.max, IntKind.signed, IntKind.bits]
         simp
         omega)
    | (simp [Prog.exec] at he)

theorem eqGuard_one (op : BinOp) (t : TypeId) (x y : Operand) {u v : Value} (hu : isOne u = true) (hn : u ≠ .nilIface) : (eqGuard op t x y u v).run K.P w = .ok () w := by
  unfold eqGuard
  cases op <;> simp <;> cases u <;> simp_all [isOne]

theorem eqIn_bool {P : Program} {t : TypeId} (hun : (underlying t).run P w = .ok .bool w) (d : Nat) (x y : Bool) : (Op.equalIn (d + 1) t (.bool x) (.bool y)).run P w = .ok (x == y) w := by
  rw [Op.equalIn]
  simp [hun]
theorem eq_bool {P : Program} {t : TypeId} (hun : (underlying t).run P w = .ok .bool w) (x y : Bool) : (Op.equal t (.bool x) (.bool y)).run P w = .ok (x == y) w :=
  eqIn_bool hun 9999 x y

theorem eqIn_nil {P : Program} {t e : TypeId} (hun : (underlying t).run P w = .ok (.slice e) w) (d : Nat) (b : Option Addr) (l c : Nat) : (Op.equalIn (d + 1) t (.slice b l c) (.slice none 0 0)).run P w = .ok b.isNone w := by
  rw [Op.equalIn]
  simp only [Sem.run_bind, hun, Result.andThen_ok]
  cases b <;> simp
theorem eq_nil {P : Program} {t e : TypeId} (hun : (underlying t).run P w = .ok (.slice e) w) (b : Option Addr) (l c : Nat) : (Op.equal t (.slice b l c) (.slice none 0 0)).run P w = .ok b.isNone w :=
  eqIn_nil hun 9999 b l c
theorem slNil_spec {K : Ctx} {β : Key → Option Nat} {Z : Nat → Prop} {s : St} {a : Act} {w : World} {c : C} {b : Bool} {v : Value} (h : slNil c = some b) (hr : CRel K β Z s a w c v) : ∃ ad l cap, v = .slice ad l cap ∧ ad.isNone = b ∧ isOne v = true := by
  cases c with
  | d x =>
    cases x <;> simp only [slNil, Option.some.injEq, reduceCtorEq] at h
    · have e : v = .slice none 0 0 := hr
      subst h e
      exact ⟨_, _, _, rfl, rfl, rfl⟩
    · split at h
      · cases h
      · rename_i hm
        obtain ⟨ad, cap, e, _⟩ := (DRel.sl_iff (by simpa using hm)).1 hr
        cases h
        subst e
        exact ⟨_, _, _, rfl, rfl, rfl⟩
  | own e xs =>
    simp only [slNil] at h
    split at h
    · cases h
    · rename_i hm
      obtain ⟨ad, cap, e, _⟩ := (CRel.own_sl (by simpa using hm)).1 hr
      cases h
      subst e
      exact ⟨_, _, _, rfl, rfl, rfl⟩
  | bor =>
    simp only [slNil] at h
    split at h
    · cases h
    · rename_i hm
      obtain ⟨ad, cap, e, _⟩ := (CRel.bor_sl (by simpa using hm)).1 hr
      cases h
      subst e
      exact ⟨_, _, _, rfl, rfl, rfl⟩
  | _ => simp [slNil] at h
theorem dats {cs : List C} : ∀ {us : List Value} {ds : List D}, datas cs = some ds → All2 (fun u c => CRel K β Z s a w c u) us cs → DL w Z us ds := by
  induction cs with
  | nil => intro us ds h hall; simp [datas] at h; subst h; cases us with | nil => trivial | cons _ _ => exact hall.elim
  | cons c cs ih =>
    intro us ds h hall
    cases us with
    | nil => exact hall.elim
    | cons u us =>
      cases c with
      | d x =>
        simp only [datas] at h
        split at h
        · rename_i ds' h1
          cases h
          exact ⟨hall.1, ih h1 hall.2⟩
        · cases h
      | _ => simp [datas] at h

include hT in
theorem bin_spec (h : Rel K β ω Z s a w) {op : BinOp} {t yt : TypeId} {x y : Operand} {dst : Nat} {o : Oper} (ho : o.op = .binOp op t x y yt) {v : SV} {s' : St} (he : (aval cfg o.op dst).exec s = some (v, s')) :
    Yield K s' a dst ((execOp a.eval o).run K.P w) v := by
  rw [ho] at he
  simp only [aval] at he
  obtain ⟨v1, s1, h1, he2⟩ := exec_bind' he
  obtain ⟨hs1, hv1, hn1, _⟩ := ev_spec h h1
  subst hs1
  clear he
  obtain ⟨v2, s2, h2, he3⟩ := exec_bind' he2
  obtain ⟨hs2, hv2, hn2, _⟩ := ev_spec h h2
  subst hs2
  clear he2
  have hexec : (execOp a.eval o).run K.P w = ((do eqGuard op t x y (a.eval x) (a.eval y); binOp op t (a.eval x) (a.eval y) : Sem Value).run K.P w).andThen fun u w' => .ok (.value u) w' := by
    simp only [execOp, ho, Sem.run_bind, Sem.run_pure]
  split at he3
  · rename_i c1 c2
    obtain ⟨o1, r1⟩ := hv1
    obtain ⟨o2, r2⟩ := hv2
    have key : s' = s2 ∧ a.eval x ≠ .nilIface ∧ ∃ d u, v = .one (.d d) ∧ (binOp op t (a.eval x) (a.eval y)).run K.P w = .ok u w ∧ DRel w Z d u := by
      unfold binP at he3
      split at he3
      · rename_i k i1 k' i2
        have e1 : a.eval x = .int k i1 := r1
        have e2 : a.eval y = .int k' i2 := r2
        rw [e1, e2]
        split at he3
        · obtain ⟨_, s3, h3, he4⟩ := exec_bind' he3
          obtain ⟨hb, hs3⟩ := exec_need h3
          subst hs3
          obtain ⟨rfl, rfl⟩ := exec_ret he4
          refine ⟨rfl, by simp, _, _, rfl, ?_, rfl⟩
          simp only [binOp, Op.shift]
          rw [if_neg (by omega)]
          rfl
        · obtain ⟨_, s3, h3, he4⟩ := exec_bind' he3
          obtain ⟨hb, hs3⟩ := exec_need h3
          subst hs3
          obtain ⟨rfl, rfl⟩ := exec_ret he4
          refine ⟨rfl, by simp, _, _, rfl, ?_, rfl⟩
          simp only [binOp, Op.shift]
          rw [if_neg (by omega)]
          rfl
        · rename_i hs1 hs2
          split at he3
          · rename_i hk
            subst hk
            obtain ⟨g1, g2⟩ := binInt_spec (K := K) (w := w) (Z := Z) (t := t) ⟨hs1, hs2⟩ he3
            exact ⟨g1, by simp, g2⟩
          · simp [Prog.exec] at he3
      · rename_i l1 l2
        have e1 : a.eval x = .string ⟨l1.toArray⟩ := r1
        have e2 : a.eval y = .string ⟨l2.toArray⟩ := r2
        rw [e1, e2]
        obtain ⟨g1, g2⟩ := binStr_spec (K := K) (w := w) (Z := Z) (t := t) he3
        exact ⟨g1, by simp, g2⟩
      · rename_i b1 b2
        have e1 : a.eval x = .bool b1 := r1
        have e2 : a.eval y = .bool b2 := r2
        rw [e1, e2]
        split at he3
        · rename_i hti
          obtain ⟨d, hd, hk, hun⟩ := run_underlying' (w := w) (hT.T _ _ hti)
          have hd2 : d = .bool := by cases d <;> simp [tk] at hk; rfl
          subst hd2
          obtain ⟨rfl, rfl⟩ := exec_ret he3
          refine ⟨rfl, by simp, _, _, rfl, ?_, rfl⟩
          simp only [binOp, Sem.run_bind, eq_bool hun, Result.andThen_ok, Sem.run_pure]
        · rename_i hti
          obtain ⟨d, hd, hk, hun⟩ := run_underlying' (w := w) (hT.T _ _ hti)
          have hd2 : d = .bool := by cases d <;> simp [tk] at hk; rfl
          subst hd2
          obtain ⟨rfl, rfl⟩ := exec_ret he3
          refine ⟨rfl, by simp, _, _, rfl, ?_, rfl⟩
          simp only [binOp, Sem.run_bind, eq_bool hun, Result.andThen_ok, Sem.run_pure]
        · simp [Prog.exec] at he3
      · have e2 : a.eval y = .slice none 0 0 := r2
        rw [e2]
        unfold binNilP at he3
        split at he3
        · rename_i hti hb
          obtain ⟨d, hd, hk, hun⟩ := run_underlying' (w := w) (hT.T _ _ hti)
          obtain ⟨e, rfl⟩ : ∃ e, d = .slice e := by cases d <;> simp [tk] at hk; exact ⟨_, rfl⟩
          obtain ⟨ad, l, cap, e1, hbb, _⟩ := slNil_spec hb r1
          rw [e1]
          obtain ⟨rfl, rfl⟩ := exec_ret he3
          refine ⟨rfl, by simp, _, _, rfl, ?_, rfl⟩
          simp only [binOp, Sem.run_bind, eq_nil hun, Result.andThen_ok, Sem.run_pure, hbb]
        · rename_i hti hb
          obtain ⟨d, hd, hk, hun⟩ := run_underlying' (w := w) (hT.T _ _ hti)
          obtain ⟨e, rfl⟩ : ∃ e, d = .slice e := by cases d <;> simp [tk] at hk; exact ⟨_, rfl⟩
          obtain ⟨ad, l, cap, e1, hbb, _⟩ := slNil_spec hb r1
          rw [e1]
          obtain ⟨rfl, rfl⟩ := exec_ret he3
          refine ⟨rfl, by simp, _, _, rfl, ?_, rfl⟩
          simp only [binOp, Sem.run_bind, eq_nil hun, Result.andThen_ok, Sem.run_pure, hbb]
        · simp [Prog.exec] at he3
      · simp [Prog.exec] at he3
    obtain ⟨rfl, hnil, d, u, rfl, hrun, hd⟩ := key
    refine Yield.d h ?_ hd
    rw [hexec]
    simp only [Sem.run_bind, eqGuard_one op t x y o1 hnil, Result.andThen_ok, hrun]
  · rename_i cs1 cs2
    unfold eqAgg at he3
    obtain ⟨ws1, e1, r1⟩ := hv1
    obtain ⟨ws2, e2, r2⟩ := hv2
    split at he3
    · rename_i sh ds es hc q1 q2
      have hE := (hT.E t sh hc).eq
      split at he3
      · rename_i hf
        simp only [Bool.and_eq_true] at hf
        obtain ⟨rfl, rfl⟩ := exec_ret he3
        refine Yield.d (d := .bool (eqDs ds es)) h (u := .bool (eqDs ds es)) ?_ rfl
        rw [hexec, e1, e2, hE w Z ws1 ws2 ds es x y (dats q1 r1) (dats q2 r2) hf.1 hf.2 .eql (.inl rfl)]
        rfl
      · simp [Prog.exec] at he3
    · rename_i sh ds es hc q1 q2
      have hE := (hT.E t sh hc).eq
      split at he3
      · rename_i hf
        simp only [Bool.and_eq_true] at hf
        obtain ⟨rfl, rfl⟩ := exec_ret he3
        refine Yield.d (d := .bool (!eqDs ds es)) h (u := .bool (!eqDs ds es)) ?_ rfl
        rw [hexec, e1, e2, hE w Z ws1 ws2 ds es x y (dats q1 r1) (dats q2 r2) hf.1 hf.2 .neq (.inr rfl)]
        rfl
      · simp [Prog.exec] at he3
    · simp [Prog.exec] at he3
  · simp [Prog.exec] at he3

end
end Go.Vs
namespace Go.Vs
section
variable {K : Ctx} {β : Key → Option Nat} {ω : Nat → Option Holder} {Z : Nat → Prop} {s : St} {a : Act} {w : World} {cfg : Cfg} (hT : Tabs K.P cfg)
theorem cInt_spec {c : C} {n : Int} {s' : St} (he : (cInt c).exec s = some (n, s')) : s' = s ∧ ∃ k, c = .d (.int k n) := by
 unfold cInt at he
 split at he
 ·obtain ⟨rfl, rfl⟩ := exec_ret he; exact ⟨rfl, _, rfl⟩
 ·simp [Prog.exec] at he
theorem cBool_spec {c : C} {b : Bool} {s' : St} (he : (cBool c).exec s = some (b, s')) : s' = s ∧ c = .d (.bool b) := by
 unfold cBool at he
 split at he
 ·obtain ⟨rfl, rfl⟩ := exec_ret he; exact ⟨rfl, rfl⟩
 ·simp [Prog.exec] at he
theorem evInt_spec (h : Rel K β ω Z s a w) {x : Operand} {n : Int} {s' : St} (he : (do let c ← ev1 x; cInt c : Prog Int).exec s = some (n, s')) : s' = s ∧ ∃ k, a.eval x = .int k n := by
 obtain ⟨c, s1, h1, he2⟩ := exec_bind' he
 obtain ⟨hs1, o1, r1, _⟩ := ev1_spec h h1
 subst hs1
 obtain ⟨hs2, k, rfl⟩ := cInt_spec he2
 exact ⟨hs2, k, r1⟩
theorem un_spec (h : Rel K β ω Z s a w) {op : UnOp} {t : TypeId} {x : Operand} {dst : Nat} {o : Oper} (ho : o.op = .unOp op t x) {v : SV} {s' : St} (he : (aval cfg o.op dst).exec s = some (v, s')) :
  Yield K s' a dst ((execOp a.eval o).run K.P w) v := by
 rw [ho] at he
 simp only [aval] at he
 obtain ⟨c, s1, h1, he2⟩ := exec_bind' he
 obtain ⟨hs1, o1, r1, _⟩ := ev1_spec h h1
 subst hs1
 clear he
 have hexec : (execOp a.eval o).run K.P w = ((Op.unary op (a.eval x)).run K.P w).andThen fun u w' => .ok (.value u) w' := by
  simp only [execOp, ho, Sem.run_bind, Sem.run_pure]
 split at he2
 ·rename_i k n _
  obtain ⟨rfl, rfl⟩ := exec_ret he2
  have e1 : a.eval x = .int k n := r1
  exact Yield.d (d := .int k (k.wrap (0 - n))) h (u := .int k (k.wrap (0 - n))) (by rw [hexec, e1]; simp [Op.unary, Op.intArith]) rfl
 ·rename_i k n _
  have e1 : a.eval x = .int k n := r1
  simp only [binInt, dint] at he2
  obtain ⟨rfl, rfl⟩ := exec_ret he2
  exact Yield.d (d := .int k _) h (u := .int k _) (by rw [hexec, e1]; simp [Op.unary, Op.intBits]) rfl
 ·rename_i b _
  obtain ⟨rfl, rfl⟩ := exec_ret he2
  have e1 : a.eval x = .bool b := r1
  exact Yield.d (d := .bool (!b)) h (u := .bool (!b)) (by rw [hexec, e1]; simp [Op.unary]) rfl
 ·simp [Prog.exec] at he2
theorem lenP_spec {isStr : Bool} {v x : SV} {u : Value} {s' : St} (hv : SVRel (CRel K β Z s a w) u v) (he : (lenP isStr v).exec s = some (x, s')) :
  s' = s ∧ ∃ n : Nat, x = dint .i64 n ∧ ((isStr = true ∧ ∃ l : List UInt8, u = .string ⟨l.toArray⟩ ∧ n = l.length) ∨ (isStr = false ∧ ∃ ad cap, u = .slice ad n cap)) := by
 unfold lenP at he
 split at he
 ·rename_i l
  obtain ⟨rfl, rfl⟩ := exec_ret he
  exact ⟨rfl, l.length, rfl, .inl ⟨rfl, l, hv.2, rfl⟩⟩
 ·obtain ⟨rfl, rfl⟩ := exec_ret he
  exact ⟨rfl, 0, rfl, .inr ⟨rfl, none, 0, hv.2⟩⟩
 ·rename_i e xs
  obtain ⟨_, s1, h1, he2⟩ := exec_bind' he
  obtain ⟨hm, hs1⟩ := exec_need h1
  subst hs1
  obtain ⟨rfl, rfl⟩ := exec_ret he2
  obtain ⟨ad, cap, g, _⟩ := (DRel.sl_iff hm).1 hv.2
  exact ⟨rfl, xs.length, rfl, .inr ⟨rfl, _, _, g⟩⟩
 ·rename_i r j hv0 cv e k xs
  obtain ⟨_, s1, h1, he2⟩ := exec_bind' he
  obtain ⟨hm, hs1⟩ := exec_need h1
  subst hs1
  obtain ⟨rfl, rfl⟩ := exec_ret he2
  obtain ⟨ad, cap, g, _⟩ := (CRel.bor_sl hm).1 hv.2
  exact ⟨rfl, xs.length, rfl, .inr ⟨rfl, _, _, g⟩⟩
 ·simp [Prog.exec] at he
def OptI (x : Option Int) (y : Option Value) : Prop := (x = none ∧ y = none) ∨ ∃ n k, x = some n ∧ y = some (.int k n)
theorem evOpt_spec (h : Rel K β ω Z s a w) {o : Option Operand} {x : Option Int} {s' : St} (he : (evOpt o).exec s = some (x, s')) : s' = s ∧ OptI x (o.map a.eval) := by
 cases o with
 | none => obtain ⟨rfl, rfl⟩ := exec_ret he; exact ⟨rfl, .inl ⟨rfl, rfl⟩⟩
 | some y =>
  simp only [evOpt] at he
  obtain ⟨c, s1, h1, he2⟩ := exec_bind' he
  obtain ⟨n, s2, h2, he3⟩ := exec_bind' he2
  obtain ⟨hx, hs3⟩ := exec_ret he3
  obtain ⟨hs1, o1, r1, _⟩ := ev1_spec h h1
  subst hs1
  obtain ⟨hs2, k, hc⟩ := cInt_spec h2
  subst hs2; subst hs3; subst hx; subst hc
  exact ⟨rfl, .inr ⟨n, k, rfl, by rw [Option.map_some]; exact congrArg some r1⟩⟩
theorem run_bounds {P : Program} (isSlice : Bool) (len cap : Nat) {lo hi : Option Int} {vlo vhi : Option Value} (hlo : OptI lo vlo) (hhi : OptI hi vhi) (hb : 0 ≤ lo.getD 0 ∧ lo.getD 0 ≤ hi.getD len ∧ hi.getD len ≤ len) (hc : len ≤ cap) :
  (Instr.sliceBounds isSlice len cap vlo vhi none).run P w = .ok ((lo.getD 0).toNat, (hi.getD len).toNat, cap) w := by
 rcases hlo with ⟨rfl, rfl⟩ | ⟨n, k, rfl, rfl⟩ <;> rcases hhi with ⟨rfl, rfl⟩ | ⟨m, k', rfl, rfl⟩ <;> simp only [Option.getD_none, Option.getD_some] at hb ⊢
 ·simp [Instr.sliceBounds]
 ·have h1 : 0 ≤ m ∧ m ≤ (cap : Int) := by omega
  simp [Instr.sliceBounds, Instr.sliceBound, asIntOf, h1]
 ·have h1 : 0 ≤ n ∧ n ≤ (len : Int) := by omega
  simp [Instr.sliceBounds, Instr.sliceBound, asIntOf, h1]
 ·have h1 : 0 ≤ m ∧ m ≤ (cap : Int) := by omega
  have h2 : 0 ≤ n ∧ n ≤ m := by omega
  have h3 : 0 ≤ n ∧ n ≤ ((m.toNat : Nat) : Int) := by omega
  simp [Instr.sliceBounds, Instr.sliceBound, asIntOf, h1]
  intro h5
  have := h5 (by omega)
  omega
theorem drop_take_len {α : Type} (xs : List α) (l h : Nat) : ((xs.take h).drop l).length = min h xs.length - l := by simp
include hT in
theorem sub_spec (h : Rel K β ω Z s a w) {t : TypeId} {x : Operand} {lo hi : Option Operand} {dst : Nat} {o : Oper} (ho : o.op = .slice t x lo hi none) {v : SV} {s' : St} (he : (aval cfg o.op dst).exec s = some (v, s')) :
  Yield K s' a dst ((execOp a.eval o).run K.P w) v := by
 rw [ho] at he
 simp only [aval] at he
 have hexec : (execOp a.eval o).run K.P w = ((Instr.sliceAt t (a.eval x) (lo.map a.eval) (hi.map a.eval) none).run K.P w).andThen fun u w' => .ok (.value u) w' := by
  simp only [execOp, ho, Sem.run_bind, Sem.run_pure]
  rfl
 split at he
 ·rename_i hti
  obtain ⟨d, hd, hk, hun⟩ := run_underlying' (w := w) (hT.T _ _ hti)
  have hd2 := tk_str hk
  subst hd2
  obtain ⟨v1, s1, h1, he2⟩ := exec_bind' he
  obtain ⟨hs1, hv, hno1, hnu1⟩ := ev_spec h h1
  subst hs1
  clear he
  obtain ⟨l, s2, h2, he3⟩ := exec_bind' he2
  obtain ⟨hs2, hl⟩ := evOpt_spec h h2
  subst hs2
  clear he2
  obtain ⟨m, s3, h3, he4⟩ := exec_bind' he3
  obtain ⟨hs3, hm⟩ := evOpt_spec h h3
  subst hs3
  clear he3
  unfold subStr at he4
  split at he4
  ·rename_i str
   obtain ⟨_, s4, h4, he5⟩ := exec_bind' he4
   obtain ⟨hb, hs4⟩ := exec_need h4
   subst hs4
   obtain ⟨rfl, rfl⟩ := exec_ret he5
   have e1 : a.eval x = .string ⟨str.toArray⟩ := hv.2
   refine Yield.d h (u := .string ⟨((str.take (m.getD str.length).toNat).drop (l.getD 0).toNat).toArray⟩) ?_ rfl
   rw [hexec, e1]
   have hbd := run_bounds (P := K.P) (w := w) false str.length str.length hl hm hb (Nat.le_refl _)
   simp only [Instr.sliceAt, Instr.slice, Sem.run_bind, hun, Result.andThen_ok, str_size, Option.isSome_none, Bool.false_eq_true, if_false]
   simp only [Sem.run_pure, Result.andThen_ok, hbd, str_extract]
  ·simp [Prog.exec] at he4
 ·rename_i et hti
  split at he
  ·rename_i i hft
   obtain ⟨d, hd, hk, hun⟩ := run_underlying' (w := w) (hT.T _ _ hti)
   have hd2 := tk_slice hk
   subst hd2
   obtain ⟨v1, s1, h1, he2⟩ := exec_bind' he
   obtain ⟨hs1, hv, hno1, hnu1⟩ := ev_spec h h1
   subst hs1
   clear he
   obtain ⟨l, s2, h2, he3⟩ := exec_bind' he2
   obtain ⟨hs2, hl⟩ := evOpt_spec h h2
   subst hs2
   clear he2
   obtain ⟨m, s3, h3, he4⟩ := exec_bind' he3
   obtain ⟨hs3, hm⟩ := evOpt_spec h h3
   subst hs3
   clear he3
   have hrun : ∀ (ad : Option Addr) (len cap : Nat), 0 ≤ l.getD 0 ∧ l.getD 0 ≤ m.getD len ∧ m.getD len ≤ len → len ≤ cap → a.eval x = .slice ad len cap →
     (execOp a.eval o).run K.P w = .ok (.value (.slice (if cap = (l.getD 0).toNat then ad else ad.map (·.add ((l.getD 0).toNat * i.size))) ((m.getD len).toNat - (l.getD 0).toNat) (cap - (l.getD 0).toNat))) w := by
    intro ad len cap hb hc hx
    have hbd := run_bounds (P := K.P) (w := w) true len cap hl hm hb hc
    rw [hexec, hx]
    simp only [Instr.sliceAt, Instr.slice, Sem.run_bind, hun, Result.andThen_ok, hbd, run_sizeOf (hT.T _ _ hft), Sem.run_pure]
   unfold subSl at he4
   split at he4
   ·obtain ⟨_, s4, h4, he5⟩ := exec_bind' he4
    obtain ⟨hb, hs4⟩ := exec_need h4
    subst hs4
    obtain ⟨rfl, rfl⟩ := exec_ret he5
    have e1 : a.eval x = .slice none 0 0 := hv.2
    have := hrun none 0 0 (by have := hb.1; have := hb.2; simp only [Int.ofNat_zero]; omega) (Nat.le_refl _) e1
    refine Yield.d h (u := .slice none 0 0) ?_ rfl
    rw [this]
    simp [hb.1, hb.2]
   ·rename_i e xs
    obtain ⟨_, s4, h4, he5⟩ := exec_bind' he4
    obtain ⟨hb, hs4⟩ := exec_need h4
    subst hs4
    obtain ⟨_, s5, h5, he6⟩ := exec_bind' he5
    obtain ⟨⟨hsz, hmp⟩, hs5⟩ := exec_need h5
    subst hs5
    obtain ⟨rfl, rfl⟩ := exec_ret he6
    obtain ⟨ad, cap, e1, g24, g3, g5⟩ := (DRel.sl_iff hmp).1 hv.2
    have hr := hrun (some ad) xs.length cap hb g3 e1
    refine Yield.d h hr ?_
    have hlen : ((xs.take (m.getD xs.length).toNat).drop (l.getD 0).toNat).length = (m.getD xs.length).toNat - (l.getD 0).toNat := by rw [drop_take_len]; omega
    have hrows := (g5.take (m.getD xs.length).toNat).drop (l.getD 0).toNat
    refine (DRel.sl_iff hmp).2 ?_
    by_cases hcap : cap = (l.getD 0).toNat
    ·rw [if_pos hcap]
     refine ⟨ad, cap - (l.getD 0).toNat, by rw [hlen], .inl (by omega), by rw [hlen]; omega, ?_⟩
     have : ((xs.take (m.getD xs.length).toNat).drop (l.getD 0).toNat) = [] := List.length_eq_zero_iff.1 (by omega)
     rw [this]
     trivial
    ·rw [if_neg hcap]
     have hc0 : cap ≠ 0 := by omega
     obtain ⟨g2, g4⟩ := g24.resolve_left hc0
     refine ⟨ad.add ((l.getD 0).toNat * i.size), cap - (l.getD 0).toNat, by rw [hlen]; rfl, .inr ⟨?_, ?_⟩, by rw [hlen]; omega, ?_⟩
     ·rw [add_of g2]
     ·rw [add_of g2]; exact g4
     ·rw [add_of g2, ← hsz]; exact hrows
   ·rename_i r j hv0 cv e k xs
    obtain ⟨_, s4, h4, he5⟩ := exec_bind' he4
    obtain ⟨hb, hs4⟩ := exec_need h4
    subst hs4
    obtain ⟨_, s5, h5, he6⟩ := exec_bind' he5
    obtain ⟨⟨hsz, hmp⟩, hs5⟩ := exec_need h5
    subst hs5
    obtain ⟨rfl, rfl⟩ := exec_ret he6
    obtain ⟨ad', cap', e1, g2, g3, g4, g5, g6⟩ := (CRel.bor_sl hmp).1 hv.2
    have hr := hrun (some ad') xs.length cap' hb g3 e1
    have hlen : ((xs.take (m.getD xs.length).toNat).drop (l.getD 0).toNat).length = (m.getD xs.length).toNat - (l.getD 0).toNat := by rw [drop_take_len]; omega
    refine Yield.same h hr ⟨rfl, (CRel.bor_sl hmp).2 ?_⟩ (by simp [SV.cells, NoOwn])
    have hsp : (if cap' = (l.getD 0).toNat then ad' else ad'.add ((l.getD 0).toNat * i.size)).spot = none := by
     split
     ·exact g2
     ·rw [add_of g2]
    have hblk : (if cap' = (l.getD 0).toNat then ad' else ad'.add ((l.getD 0).toNat * i.size)).block = ad'.block := by
     split
     ·rfl
     ·rw [add_of g2]
    refine ⟨if cap' = (l.getD 0).toNat then ad' else ad'.add ((l.getD 0).toNat * i.size), cap' - (l.getD 0).toNat, by rw [hlen]; split <;> rfl, hsp, by rw [hlen]; omega, g4, g5, fun q1 q2 => ?_⟩
    obtain ⟨ad, len, cap, f1, f2, f3, f4, f4b, f5, f6, f7, ys, f8, f9⟩ := g6 q1 q2
    refine ⟨ad, len, cap, f1, f2, by rw [hblk]; exact f3, ?_, ?_, by omega, by rw [hlen]; omega, f7, ys, f8, fun hcv => ?_⟩
    ·by_cases hcap : cap' = (l.getD 0).toNat
     ·exact .inr (by omega)
     ·rw [if_neg hcap, add_of g2]
      rcases f4 with f4 | f4
      ·left; simp only; rw [f4, ← hsz, Nat.add_mul]; omega
      ·right; omega
    ·by_cases hcap : cap' = (l.getD 0).toNat
     ·rw [if_pos hcap]; exact f4b
     ·rw [if_neg hcap, add_of g2]
      rcases f4 with f4 | f4
      ·simp only; rw [f4, ← hsz, ← f5, Nat.add_mul]
       have : (l.getD 0).toNat * e ≤ cap' * e := Nat.mul_le_mul_right _ (by omega)
       omega
      ·omega
    ·rw [hlen]
     have hx := f9 hcv
     rw [hx]
     apply List.ext_getElem?
     intro n
     simp only [List.getElem?_drop, List.getElem?_take]
     by_cases hn : n < (m.getD xs.length).toNat - (l.getD 0).toNat
     ·have h1 : (l.getD 0).toNat + n < (m.getD ((List.take xs.length (List.drop k ys)).length : Int)).toNat := by rw [← hx]; omega
      have h2 : (l.getD 0).toNat + n < xs.length := by omega
      rw [if_pos h1, if_pos h2, if_pos (by rw [← hx]; exact hn)]
      congr 1
      omega
     ·have h1 : ¬ ((l.getD 0).toNat + n < (m.getD ((List.take xs.length (List.drop k ys)).length : Int)).toNat) := by rw [← hx]; omega
      rw [if_neg h1, if_neg (by rw [← hx]; exact hn)]
   ·simp [Prog.exec] at he4
  ·simp [Prog.exec] at he
 ·simp [Prog.exec] at he
end
end Go.Vs
